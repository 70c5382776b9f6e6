/- That the functions of a package do what their plain functions say. -/
import Derived.Test.YtkiiigfefobdlaaDoorSh
import Derived.Test.YtkiiigfefobdlaaDoorWkCFacts
import Derived.Test.YtkiiigfefobdlaaDoorWkCbits
import Derived.Test.YtkiiigfefobdlaaDoorWkCgraph
open Go Go.Av Go.Proofs
set_option linter.unusedVariables false
set_option maxHeartbeats 8000000
set_option maxRecDepth 20000
namespace Wk
theorem reach_From_ok0 {W0 : World} (hT : Tab W0) {g_0 : G.graph_Graph} {a_1 : Int} {r : (BitVec 64)} (h : G.reach_From g_0 a_1 = some r) : Fun2 Tryd.prog W0 56 [G.graph_Graph.av g_0, i64 a_1] (u64 r) .empty := by
 refine fun2_of_awp Tryd.func56 rfl (by kernel_rfl) Tryd.ntmps56 (by simp) ?_
 unfold G.reach_From at h
 show AWP _ _ _ _ ⟨[(0, G.graph_Graph.av g_0), (1, i64 a_1)], .empty⟩ _
 refine awp_seqK fun K1 hK1 => awp_reg rfl <| AR.op (r := .ref 0 0 0) rfl (aop_box 2 [G.graph_Graph.av g_0] rfl rfl rfl (.inl ⟨rfl, rfl⟩)) <| AR.op rfl (aop_move (.inr rfl) rfl) <| AR.nil <| hK1 _ (AWP.weak (Weak.e (fr' := [(1, i64 a_1), (2, .pp [i64 g_0.N, .sl (List.map u64 g_0.Rows)] 0)]) (H' := .empty) ⟨.k, ⟨_, rfl, .frzA rfl rfl rfl rfl (by simp)⟩, trivial⟩) ?_)
 refine awp_scope 0 (fun (p : (BitVec 64) × (BitVec 64)) => G.reach_From_b1 g_0 p.1 p.2) (fun (p : (BitVec 64) × (BitVec 64)) => (⟨[(2, .pp [i64 g_0.N, .sl (List.map u64 g_0.Rows)] 0), (5, u64 p.1), (6, u64 p.2)], .empty⟩ : St)) r rfl ?_ ?_
 ·skip
  refine awp_seqK fun K9 hK9 => awp_seqJ (fun (p : Bool) => (⟨[(1, i64 a_1), (2, .pp [i64 g_0.N, .sl (List.map u64 g_0.Rows)] 0), (20, bl p)], .empty⟩ : St)) (fun (p : Bool) => G.reach_From_j1 g_0 a_1 p = some r) ?_ ?_
  ·rintro v85 h
   replace h : G.reach_From_j1 g_0 a_1 v85 = some r := h
   unfold G.reach_From_j1 at h
   refine awp_cond rfl (fun hb86 => ?_) (fun hb86 => ?_)
   ·replace h := Sh.if_t h hb86
    refine awp_seqK fun K10 hK10 => awp_reg rfl <| AR.op rfl (aop_move (.inr rfl) rfl) <| AR.nil <| hK10 _ (AWP.weak (Weak.kt [4] rfl) ?_)
    refine awp_ret ?_
    obtain rfl := Option.some.inj h
    refine ⟨.inr rfl, u64 0#64, rfl, ?_⟩
    exact Weak.e ⟨.k, trivial⟩
   ·replace h := Sh.if_f h hb86
    refine awp_skip <| hK9 _ (AWP.weak (Weak.kt [1, 2] rfl) ?_)
    refine awp_seqK fun K11 hK11 => awp_any [(true, false), (true, false), (true, false), (true, false), (true, false), (true, false), (true, false)] (by kernel_rfl) (by kernel_rfl) rfl ?_
    refine ARH.dry rfl (fun _ => aop_field_pp rfl rfl fd24_1 (by decide)) <| ARH.dry (r := .sl (List.map u64 g_0.Rows)) rfl (fun _ => aop_load_pp rfl rfl sz22 rfl) <| ARH.dry rfl (fun _ => aop_move (.inl rfl) rfl) <| ARH.keep [2, 22, 23] rfl ?_
    obtain ⟨x89, hx89, h⟩ := Sh.bind_some' h
    obtain ⟨k90, hi90, hl90⟩ := Sh.idx_some hx89
    refine ARH.dry rfl (fun _ => t_index_sl u64 g_0.Rows hi90 hl90 rfl rfl rfl el22 rfl) <| ARH.dry (r := u64 x89) rfl (fun _ => aop_load_pp rfl rfl sz35 rfl) <| ARH.dry rfl (fun _ => aop_move (.inr rfl) rfl) <| ARH.keep [2, 25, 5] rfl <| ARH.dry rfl (fun _ => aop_move (.inr rfl) rfl) <| ARH.nil <| hK11 _ (AWP.weak (Weak.kt [2, 5, 6] rfl) ?_)
    refine awp_seqK fun K12 hK12 => awp_label <| hK12 _ ?_
    refine awp_seqK fun K13 hK13 => awp_reg rfl <| AR.op rfl (aop_move (.inl rfl) rfl) ?_
    obtain ⟨r92, hr92, h⟩ := Sh.bind_some' h
    refine AR.op (r := i64 r92) rfl (aop_call1 rfl rfl (by simp) (bits_Least_ok hT hr92)) <| AR.op rfl (aop_move (.inr rfl) rfl) <| AR.nil <| hK13 _ (AWP.weak (Weak.kt [2, 5, 6, 7] rfl) ?_)
    refine awp_seqK fun K14 hK14 => awp_seqK fun K15 hK15 => awp_reg rfl <| AR.op rfl (aop_move (.inl rfl) rfl) <| AR.op rfl (aop_lss rfl rfl rfl) <| AR.nil <| hK15 _ (AWP.weak (Weak.kt [2, 5, 6, 7, 29] rfl) ?_)
    refine awp_cond rfl (fun hb93 => ?_) (fun hb93 => ?_)
    ·replace h := Sh.if_t h hb93
     refine awp_seqK fun K16 hK16 => awp_reg rfl <| AR.op rfl (aop_move (.inl rfl) rfl) <| AR.op rfl (aop_move (.inr rfl) rfl) <| AR.nil <| hK16 _ (AWP.weak (Weak.kt [4] rfl) ?_)
     refine awp_ret ?_
     obtain rfl := Option.some.inj h
     refine ⟨.inr rfl, u64 0#64, rfl, ?_⟩
     exact Weak.e ⟨.k, trivial⟩
    ·replace h := Sh.if_f h hb93
     refine awp_skip <| hK14 _ (AWP.weak (Weak.kt [2, 5, 6, 7] rfl) ?_)
     refine awp_seqK fun K17 hK17 => awp_reg rfl <| AR.op rfl (aop_move (.inl rfl) rfl) <| AR.op rfl (aop_move (.inl rfl) rfl) ?_
     obtain ⟨r95, hr95, h⟩ := Sh.bind_some' h
     refine AR.op (r := u64 r95) rfl (aop_call1 rfl rfl (by simp) (bits_With_ok hT hr95)) <| AR.keep [2, 6, 7, 33] rfl <| AR.op rfl (aop_move (.inr rfl) rfl) <| AR.nil <| hK17 _ (AWP.weak (Weak.kt [2, 6, 7, 5] rfl) ?_)
     refine awp_seqK fun K18 hK18 => awp_reg rfl <| AR.op rfl (aop_move (.inl rfl) rfl) <| AR.op rfl (aop_field_pp rfl rfl fd24_1 (by decide)) <| AR.op (r := .sl (List.map u64 g_0.Rows)) rfl (aop_load_pp rfl rfl sz22 rfl) <| AR.keep [2, 7, 5, 34, 36] rfl <| AR.op rfl (aop_move (.inl rfl) rfl) ?_
     obtain ⟨x99, hx99, h⟩ := Sh.bind_some' h
     obtain ⟨k100, hi100, hl100⟩ := Sh.idx_some hx99
     refine AR.op rfl (t_index_sl u64 g_0.Rows hi100 hl100 rfl rfl rfl el22 rfl) <| AR.op (r := u64 x99) rfl (aop_load_pp rfl rfl sz35 rfl) <| AR.keep [2, 5, 34, 39] rfl <| AR.op (r := .clip (List.map u64 [x89, x99])) rfl (aop_buildSlice rfl (xo := [.tmp 34, .tmp 39]) rfl rfl rfl (by simp [AV.solid]) (by simp [AV.flat]) el22 ze22 (by decide)) ?_
     obtain ⟨r101, hr101, h⟩ := Sh.bind_some' h
     refine AR.op (r := u64 r101) rfl (aop_callN rfl (ys := [.clip (List.map u64 [x89, x99])]) (xs := [.sl (List.map u64 [x89, x99])]) rfl (Weak.e (fr' := argsFr 0 [.sl (List.map u64 [x89, x99])]) (H' := .empty) ⟨⟨.clip (List.map u64 [x89, x99]), rfl, .wide _ (by simp)⟩, trivial⟩) rfl (by simp) (bits_Join_ok hT hr101)) <| AR.op rfl (aop_move (.inl rfl) rfl) <| AR.keep [2, 5, 41, 42] rfl <| AR.op (r := u64 (r101 &&& ~~~r95)) rfl (aop_andNot (a := r101) (b := r95) rfl rfl rfl) <| AR.op rfl (aop_move (.inr rfl) rfl) <| AR.nil <| hK18 _ (AWP.weak (Weak.kt [2, 5, 6] rfl) ?_)
     refine awp_goto ?_
     exact ⟨rfl, (r95, r101 &&& ~~~r95), h, Weak.kt [2, 5, 6] rfl⟩
  ·intro K19 hK19
   refine awp_reg rfl <| AR.op (r := G.graph_Graph.av g_0) rfl (aop_load_pp rfl rfl sz24 rfl) ?_
   obtain ⟨r102, hr102, h⟩ := Sh.bind_some' h
   refine AR.op (r := bl r102) rfl (aop_call1 rfl rfl (by simp) (graph_Right_ok hT hr102)) <| AR.op (r := bl (!r102)) rfl (aop_not rfl rfl) <| AR.keep [1, 2, 10] rfl <| AR.op rfl (aop_move (.inl rfl) rfl) ?_
   rcases Bool.eq_false_or_eq_true (!r102) with hb103 | hb103
   ·rw [hb103]
    replace h := Sh.if_t h hb103
    refine AR.skip rfl <| AR.skip rfl <| AR.keep [1, 2, 11, 13] rfl <| AR.op rfl (aop_pick rfl rfl rfl) <| AR.op rfl (aop_move (.inl rfl) rfl) <| AR.skip rfl <| AR.keep [1, 2, 15, 16] rfl <| AR.skip rfl ?_
    refine AR.skip rfl <| AR.skip rfl <| AR.keep [1, 2, 15, 19] rfl <| AR.op rfl (aop_pick rfl rfl rfl) <| AR.nil ?_
    exact hK19 true _ h (Weak.kt [1, 2, 20] rfl)
   ·rw [hb103]
    replace h := Sh.if_f h hb103
    refine AR.op rfl (aop_move (.inl rfl) rfl) <| AR.op rfl (aop_lss rfl rfl rfl) <| AR.keep [1, 2, 11, 13] rfl <| AR.op rfl (aop_pick rfl rfl rfl) <| AR.op rfl (aop_move (.inl rfl) rfl) ?_
    rcases Bool.eq_false_or_eq_true (decide (a_1 < 0)) with hb104 | hb104
    ·rw [hb104]
     replace h := Sh.if_t h hb104
     refine AR.skip rfl <| AR.keep [1, 2, 15, 16] rfl <| AR.skip rfl <| AR.skip rfl <| AR.skip rfl <| AR.keep [1, 2, 15, 19] rfl <| AR.op rfl (aop_pick rfl rfl rfl) <| AR.nil ?_
     exact hK19 true _ h (Weak.kt [1, 2, 20] rfl)
    ·rw [hb104]
     replace h := Sh.if_f h hb104
     refine AR.op rfl (aop_move (.inl rfl) rfl) <| AR.keep [1, 2, 15, 16] rfl <| AR.op rfl (aop_field_pp rfl rfl fd24_0 (by decide)) <| AR.op (r := i64 g_0.N) rfl (aop_load_pp rfl rfl sz3 rfl) <| AR.op rfl (aop_geq rfl rfl rfl) <| AR.keep [1, 2, 15, 19] rfl <| AR.op rfl (aop_pick rfl rfl rfl) <| AR.nil ?_
     exact hK19 (decide (g_0.N ≤ a_1)) _ h (Weak.kt [1, 2, 20] rfl)
 ·skip
  rintro ⟨seen65, left66⟩ o1 h hx1
  replace h : G.reach_From_b1 g_0 seen65 left66 = some o1 := h
  unfold G.reach_From_b1 at h
  refine awp_seqK fun K2 hK2 => awp_skip <| hK2 _ ?_
  refine awp_seqK fun K3 hK3 => awp_reg rfl <| AR.op rfl (aop_move (.inl rfl) rfl) ?_
  obtain ⟨r68, hr68, h⟩ := Sh.bind_some' h
  refine AR.op (r := i64 r68) rfl (aop_call1 rfl rfl (by simp) (bits_Least_ok hT hr68)) <| AR.op rfl (aop_move (.inr rfl) rfl) <| AR.nil <| hK3 _ (AWP.weak (Weak.kt [2, 5, 6, 7] rfl) ?_)
  refine awp_seqK fun K4 hK4 => awp_seqK fun K5 hK5 => awp_reg rfl <| AR.op rfl (aop_move (.inl rfl) rfl) <| AR.op rfl (aop_lss rfl rfl rfl) <| AR.nil <| hK5 _ (AWP.weak (Weak.kt [2, 5, 6, 7, 29] rfl) ?_)
  refine awp_cond rfl (fun hb69 => ?_) (fun hb69 => ?_)
  ·replace h := Sh.if_t h hb69
   refine awp_seqK fun K6 hK6 => awp_reg rfl <| AR.op rfl (aop_move (.inl rfl) rfl) <| AR.op rfl (aop_move (.inr rfl) rfl) <| AR.nil <| hK6 _ (AWP.weak (Weak.kt [4] rfl) ?_)
   refine awp_ret ?_
   replace h := Sh.exit_eq h hx1
   obtain rfl := Option.some.inj h
   refine ⟨.inr rfl, u64 seen65, rfl, ?_⟩
   exact Weak.e ⟨.k, trivial⟩
  ·replace h := Sh.if_f h hb69
   refine awp_skip <| hK4 _ (AWP.weak (Weak.kt [2, 5, 6, 7] rfl) ?_)
   refine awp_seqK fun K7 hK7 => awp_reg rfl <| AR.op rfl (aop_move (.inl rfl) rfl) <| AR.op rfl (aop_move (.inl rfl) rfl) ?_
   obtain ⟨r71, hr71, h⟩ := Sh.bind_some' h
   refine AR.op (r := u64 r71) rfl (aop_call1 rfl rfl (by simp) (bits_With_ok hT hr71)) <| AR.keep [2, 6, 7, 33] rfl <| AR.op rfl (aop_move (.inr rfl) rfl) <| AR.nil <| hK7 _ (AWP.weak (Weak.kt [2, 6, 7, 5] rfl) ?_)
   refine awp_seqK fun K8 hK8 => awp_reg rfl <| AR.op rfl (aop_move (.inl rfl) rfl) <| AR.op rfl (aop_field_pp rfl rfl fd24_1 (by decide)) <| AR.op (r := .sl (List.map u64 g_0.Rows)) rfl (aop_load_pp rfl rfl sz22 rfl) <| AR.keep [2, 7, 5, 34, 36] rfl <| AR.op rfl (aop_move (.inl rfl) rfl) ?_
   obtain ⟨x75, hx75, h⟩ := Sh.bind_some' h
   obtain ⟨k76, hi76, hl76⟩ := Sh.idx_some hx75
   refine AR.op rfl (t_index_sl u64 g_0.Rows hi76 hl76 rfl rfl rfl el22 rfl) <| AR.op (r := u64 x75) rfl (aop_load_pp rfl rfl sz35 rfl) <| AR.keep [2, 5, 34, 39] rfl <| AR.op (r := .clip (List.map u64 [left66, x75])) rfl (aop_buildSlice rfl (xo := [.tmp 34, .tmp 39]) rfl rfl rfl (by simp [AV.solid]) (by simp [AV.flat]) el22 ze22 (by decide)) ?_
   obtain ⟨r77, hr77, h⟩ := Sh.bind_some' h
   refine AR.op (r := u64 r77) rfl (aop_callN rfl (ys := [.clip (List.map u64 [left66, x75])]) (xs := [.sl (List.map u64 [left66, x75])]) rfl (Weak.e (fr' := argsFr 0 [.sl (List.map u64 [left66, x75])]) (H' := .empty) ⟨⟨.clip (List.map u64 [left66, x75]), rfl, .wide _ (by simp)⟩, trivial⟩) rfl (by simp) (bits_Join_ok hT hr77)) <| AR.op rfl (aop_move (.inl rfl) rfl) <| AR.keep [2, 5, 41, 42] rfl <| AR.op (r := u64 (r77 &&& ~~~r71)) rfl (aop_andNot (a := r77) (b := r71) rfl rfl rfl) <| AR.op rfl (aop_move (.inr rfl) rfl) <| AR.nil <| hK8 _ (AWP.weak (Weak.kt [2, 5, 6] rfl) ?_)
   refine awp_goto ?_
   replace h := Sh.next_eq h
   exact ⟨rfl, _, h, Weak.kt [2, 5, 6] rfl⟩
theorem reach_From_ok {W0 : World} (hT : Tab W0) {g_0 : G.graph_Graph} {a_1 : Int} {r : (BitVec 64)} (h : G.reach_From g_0 a_1 = some r) : Fun1 Tryd.prog W0 56 [G.graph_Graph.av g_0, i64 a_1] (u64 r) := Fun1.two (reach_From_ok0 hT h) (by simp)


theorem reach_Cyclic_ok0 {W0 : World} (hT : Tab W0) {g_0 : G.graph_Graph} {r : Bool} (h : G.reach_Cyclic g_0 = some r) : Fun2 Tryd.prog W0 33 [G.graph_Graph.av g_0] (bl r) .empty := by
 refine fun2_of_awp Tryd.func33 rfl (by kernel_rfl) Tryd.ntmps33 (by simp) ?_
 unfold G.reach_Cyclic at h
 show AWP _ _ _ _ ⟨[(0, G.graph_Graph.av g_0)], .empty⟩ _
 refine awp_seqK fun K1 hK1 => awp_reg rfl <| AR.op (r := .ref 0 0 0) rfl (aop_box 2 [G.graph_Graph.av g_0] rfl rfl rfl (.inl ⟨rfl, rfl⟩)) <| AR.op rfl (aop_move (.inr rfl) rfl) <| AR.nil <| hK1 _ (AWP.weak (Weak.e (fr' := [(1, .pp [i64 g_0.N, .sl (List.map u64 g_0.Rows)] 0)]) (H' := .empty) ⟨⟨_, rfl, .frzA rfl rfl rfl rfl (by simp)⟩, trivial⟩) ?_)
 refine awp_seqJ (fun (p : Unit) => (⟨[], .empty⟩ : St)) (fun (p : Unit) => G.reach_Cyclic_j1 = some r) ?_ ?_
 ·rintro ⟨⟩ h
  replace h : G.reach_Cyclic_j1 = some r := h
  unfold G.reach_Cyclic_j1 at h
  refine awp_seqK fun K2 hK2 => awp_reg rfl <| AR.op rfl (aop_move (.inr rfl) rfl) <| AR.nil <| hK2 _ ?_
  refine awp_ret ?_
  obtain rfl := Option.some.inj h
  refine ⟨.inr rfl, bl false, rfl, ?_⟩
  exact Weak.e ⟨.k, trivial⟩
 ·intro K3 hK3
  refine awp_seqK fun K4 hK4 => awp_reg rfl <| AR.op rfl (aop_move (.inr rfl) rfl) <| AR.nil <| hK4 _ ?_
  refine awp_block <| awp_iter (fun (p : Int) => G.reach_Cyclic_b1 g_0 p) (fun (p : Int) => (⟨[(1, .pp [i64 g_0.N, .sl (List.map u64 g_0.Rows)] 0), (3, i64 p)], .empty⟩ : St)) h (Weak.kt [1, 3] rfl) ?_
  ·skip
   rintro a46 o1 h hx1
   replace h : G.reach_Cyclic_b1 g_0 a46 = some o1 := h
   unfold G.reach_Cyclic_b1 at h
   refine awp_seqK fun K5 hK5 => awp_seqJ (fun (p : Bool) => (⟨[(1, .pp [i64 g_0.N, .sl (List.map u64 g_0.Rows)] 0), (3, i64 a46), (11, bl p)], .empty⟩ : St)) (fun (p : Bool) => G.reach_Cyclic_j2 g_0 a46 p = some o1) ?_ ?_
   ·rintro v52 h
    replace h : G.reach_Cyclic_j2 g_0 a46 v52 = some o1 := h
    unfold G.reach_Cyclic_j2 at h
    refine awp_cond rfl (fun hb53 => ?_) (fun hb53 => ?_)
    ·replace h := Sh.if_t h hb53
     refine awp_skip <| hK5 _ (AWP.weak (Weak.kt [1, 3] rfl) ?_)
     refine awp_seqK fun K6 hK6 => awp_block <| awp_seqK fun K7 hK7 => awp_reg rfl <| AR.op (r := G.graph_Graph.av g_0) rfl (aop_load_pp rfl rfl sz24 rfl) <| AR.op rfl (aop_move (.inl rfl) rfl) ?_
     obtain ⟨r58, hr58, h⟩ := Sh.bind_some' h
     refine AR.op (r := u64 r58) rfl (aop_call1 rfl rfl (by simp) (reach_From_ok hT hr58)) <| AR.keep [1, 3, 16] rfl <| AR.op rfl (aop_move (.inl rfl) rfl) ?_
     obtain ⟨r59, hr59, h⟩ := Sh.bind_some' h
     refine AR.op (r := bl r59) rfl (aop_call1 rfl rfl (by simp) (bits_Has_ok hT hr59)) <| AR.nil <| hK7 _ (AWP.weak (Weak.kt [1, 3, 18] rfl) ?_)
     refine awp_cond rfl (fun hb60 => ?_) (fun hb60 => ?_)
     ·replace h := Sh.if_t h hb60
      refine awp_seqK fun K8 hK8 => awp_reg rfl <| AR.op rfl (aop_move (.inr rfl) rfl) <| AR.nil <| hK8 _ (AWP.weak (Weak.kt [2] rfl) ?_)
      refine awp_ret ?_
      replace h := Sh.exit_eq h hx1
      obtain rfl := Option.some.inj h
      refine ⟨.inr rfl, bl true, rfl, ?_⟩
      exact Weak.e ⟨.k, trivial⟩
     ·replace h := Sh.if_f h hb60
      refine awp_skip <| hK6 _ (AWP.weak (Weak.kt [1, 3] rfl) ?_)
      refine awp_reg rfl <| AR.op rfl (aop_move (.inl rfl) rfl) <| AR.op rfl (aop_add rfl rfl rfl rfl) <| AR.op rfl (aop_move (.inr rfl) rfl) <| AR.nil ?_
      replace h := Sh.next_eq h
      exact ⟨_, h, Weak.kt [1, 3] rfl⟩
    ·replace h := Sh.if_f h hb53
     refine awp_exit ?_
     replace h := Sh.exit_eq h hx1
     exact hK3 () _ h (Weak.kt [] rfl)
   ·intro K9 hK9
    refine awp_reg rfl <| AR.op (r := G.graph_Graph.av g_0) rfl (aop_load_pp rfl rfl sz24 rfl) ?_
    obtain ⟨r61, hr61, h⟩ := Sh.bind_some' h
    refine AR.op (r := bl r61) rfl (aop_call1 rfl rfl (by simp) (graph_Right_ok hT hr61)) <| AR.op rfl (aop_move (.inl rfl) rfl) <| AR.keep [1, 3, 6] rfl ?_
    rcases Bool.eq_false_or_eq_true (r61) with hb62 | hb62
    ·rw [hb62]
     replace h := Sh.if_t h hb62
     refine AR.op rfl (aop_move (.inl rfl) rfl) <| AR.op rfl (aop_field_pp rfl rfl fd24_0 (by decide)) <| AR.op (r := i64 g_0.N) rfl (aop_load_pp rfl rfl sz3 rfl) <| AR.keep [1, 3, 6, 7, 8, 9] rfl <| AR.op rfl (aop_lss rfl rfl rfl) <| AR.op rfl (aop_pick rfl rfl rfl) <| AR.nil ?_
     exact hK9 (decide (a46 < g_0.N)) _ h (Weak.kt [1, 3, 11] rfl)
    ·rw [hb62]
     replace h := Sh.if_f h hb62
     refine AR.skip rfl <| AR.skip rfl <| AR.skip rfl <| AR.keep [1, 3, 6, 7, 8, 9] rfl <| AR.skip rfl <| AR.op rfl (aop_pick rfl rfl rfl) <| AR.nil ?_
     exact hK9 false _ h (Weak.kt [1, 3, 11] rfl)
theorem reach_Cyclic_ok {W0 : World} (hT : Tab W0) {g_0 : G.graph_Graph} {r : Bool} (h : G.reach_Cyclic g_0 = some r) : Fun1 Tryd.prog W0 33 [G.graph_Graph.av g_0] (bl r) := Fun1.two (reach_Cyclic_ok0 hT h) (by simp)

end Wk
