/- That a statement does what its plain function says. -/
import Derived.Test.YtkiiigfefobdlaaDoorWkCinquestlaw14
open Go Go.Av Go.Proofs
set_option linter.unusedVariables false
set_option maxHeartbeats 8000000
set_option maxRecDepth 20000
namespace Wk
theorem inquestlaw14_SccParts_ok0 {W0 : World} (hT : Tab W0) {g_0 : G.graph_Graph} {r : Bool} (h : G.inquestlaw14_SccParts g_0 = some r) : Fun2 Tryd.prog W0 7 [G.graph_Graph.av g_0] (bl r) .empty := by
 refine fun2_of_awp Tryd.func7 rfl (by kernel_rfl) Tryd.ntmps7 (by simp) ?_
 unfold G.inquestlaw14_SccParts at h
 show AWP _ _ _ _ ⟨[(0, G.graph_Graph.av g_0)], .empty⟩ _
 refine awp_seqK fun K1 hK1 => awp_reg rfl <| AR.op (r := .ref 0 0 0) rfl (aop_box 2 [G.graph_Graph.av g_0] rfl rfl rfl (.inl ⟨rfl, rfl⟩)) <| AR.op rfl (aop_move (.inr rfl) rfl) <| AR.nil <| hK1 _ (AWP.weak (Weak.e (fr' := [(1, .pp [i64 g_0.N, .sl (List.map u64 g_0.Rows)] 0)]) (H' := .empty) ⟨⟨_, rfl, .frzA rfl rfl rfl rfl (by simp)⟩, trivial⟩) ?_)
 refine awp_seqK fun K2 hK2 => awp_reg rfl ?_
 obtain ⟨r177, hr177, h⟩ := Sh.bind_some' h
 refine AR.op (r := bl r177) rfl (aop_call1 rfl rfl (by simp) (inquestlaw14_awake_ok hT hr177)) <| AR.op rfl (aop_move (.inr rfl) rfl) <| AR.nil <| hK2 _ (AWP.weak (Weak.kt [1, 3] rfl) ?_)
 refine awp_seqK fun K3 hK3 => awp_seqK fun K4 hK4 => awp_reg rfl <| AR.op rfl (aop_move (.inl rfl) rfl) <| AR.op (r := bl (!r177)) rfl (aop_not rfl rfl) <| AR.nil <| hK4 _ (AWP.weak (Weak.kt [1, 12] rfl) ?_)
 refine awp_cond rfl (fun hb178 => ?_) (fun hb178 => ?_)
 ·replace h := Sh.if_t h hb178
  refine awp_seqK fun K5 hK5 => awp_reg rfl <| AR.op rfl (aop_move (.inr rfl) rfl) <| AR.nil <| hK5 _ (AWP.weak (Weak.kt [2] rfl) ?_)
  refine awp_ret ?_
  obtain rfl := Option.some.inj h
  refine ⟨.inr rfl, bl false, rfl, ?_⟩
  exact Weak.e ⟨.k, trivial⟩
 ·replace h := Sh.if_f h hb178
  refine awp_skip <| hK3 _ (AWP.weak (Weak.kt [1] rfl) ?_)
  refine awp_seqK fun K6 hK6 => awp_seqJ (fun (p : Bool) => (⟨[(1, .pp [i64 g_0.N, .sl (List.map u64 g_0.Rows)] 0), (21, bl p)], .empty⟩ : St)) (fun (p : Bool) => G.inquestlaw14_SccParts_j1 g_0 p = some r) ?_ ?_
  ·rintro v184 h
   replace h : G.inquestlaw14_SccParts_j1 g_0 v184 = some r := h
   unfold G.inquestlaw14_SccParts_j1 at h
   refine awp_cond rfl (fun hb185 => ?_) (fun hb185 => ?_)
   ·replace h := Sh.if_t h hb185
    refine awp_seqK fun K7 hK7 => awp_reg rfl <| AR.op rfl (aop_move (.inr rfl) rfl) <| AR.nil <| hK7 _ (AWP.weak (Weak.kt [2] rfl) ?_)
    refine awp_ret ?_
    obtain rfl := Option.some.inj h
    refine ⟨.inr rfl, bl true, rfl, ?_⟩
    exact Weak.e ⟨.k, trivial⟩
   ·replace h := Sh.if_f h hb185
    refine awp_skip <| hK6 _ (AWP.weak (Weak.kt [1] rfl) ?_)
    refine awp_seqK fun K8 hK8 => awp_reg rfl <| AR.op (r := G.graph_Graph.av g_0) rfl (aop_load_pp rfl rfl sz24 rfl) ?_
    obtain ⟨r187, hr187, h⟩ := Sh.bind_some' h
    refine AR.op (r := .sl (List.map (slA i64) r187)) rfl (aop_call1 rfl rfl (by simp) (scc_Comps_ok hT hr187)) <| AR.op rfl (aop_move (.inr rfl) rfl) <| AR.nil <| hK8 _ (AWP.weak (Weak.kt [1, 4] rfl) ?_)
    refine awp_seqK fun K9 hK9 => awp_reg rfl <| AR.op (r := G.graph_Graph.av g_0) rfl (aop_load_pp rfl rfl sz24 rfl) ?_
    obtain ⟨r189, hr189, h⟩ := Sh.bind_some' h
    refine AR.op (r := .sl (List.map i64 r189)) rfl (aop_call1 rfl rfl (by simp) (scc_Which_ok hT hr189)) <| AR.op rfl (aop_move (.inr rfl) rfl) <| AR.nil <| hK9 _ (AWP.weak (Weak.kt [1, 4, 5] rfl) ?_)
    refine awp_seqK fun K10 hK10 => awp_seqK fun K11 hK11 => awp_reg rfl <| AR.op rfl (aop_move (.inl rfl) rfl) <| AR.op rfl (t_len_sl i64 r189 rfl rfl el25) <| AR.op rfl (aop_field_pp rfl rfl fd24_0 (by decide)) <| AR.keep [1, 4, 5, 27, 28] rfl <| AR.op (r := i64 g_0.N) rfl (aop_load_pp rfl rfl sz3 rfl) ?_
    refine AR.op (r := bl (decide ((Sh.len r189) ≠ g_0.N))) rfl (aop_neq rfl rfl rfl) <| AR.nil <| hK11 _ (AWP.weak (Weak.kt [1, 4, 5, 30] rfl) ?_)
    refine awp_cond rfl (fun hb190 => ?_) (fun hb190 => ?_)
    ·replace h := Sh.if_t h hb190
     refine awp_seqK fun K12 hK12 => awp_reg rfl <| AR.op rfl (aop_move (.inr rfl) rfl) <| AR.nil <| hK12 _ (AWP.weak (Weak.kt [2] rfl) ?_)
     refine awp_ret ?_
     obtain rfl := Option.some.inj h
     refine ⟨.inr rfl, bl false, rfl, ?_⟩
     exact Weak.e ⟨.k, trivial⟩
    ·replace h := Sh.if_f h hb190
     refine awp_skip <| hK10 _ (AWP.weak (Weak.kt [1, 4, 5] rfl) ?_)
     refine awp_seqK fun K13 hK13 => awp_reg rfl <| AR.op rfl (aop_move (.inr rfl) rfl) <| AR.nil <| hK13 _ ?_
     refine awp_seqJ (fun (p : Int) => (⟨[(1, .pp [i64 g_0.N, .sl (List.map u64 g_0.Rows)] 0), (6, i64 p)], .empty⟩ : St)) (fun (p : Int) => G.inquestlaw14_SccParts_j2 g_0 p = some r) ?_ ?_
     ·rintro many360 h
      replace h : G.inquestlaw14_SccParts_j2 g_0 many360 = some r := h
      unfold G.inquestlaw14_SccParts_j2 at h
      refine awp_seqK fun K14 hK14 => awp_reg rfl <| AR.op rfl (aop_move (.inl rfl) rfl) <| AR.op rfl (aop_field_pp rfl rfl fd24_0 (by decide)) <| AR.op (r := i64 g_0.N) rfl (aop_load_pp rfl rfl sz3 rfl) <| AR.keep [109, 111] rfl <| AR.op (r := bl (decide (many360 = g_0.N))) rfl (aop_eql rfl rfl rfl) <| AR.op rfl (aop_move (.inr rfl) rfl) ?_
      refine AR.nil <| hK14 _ (AWP.weak (Weak.kt [2] rfl) ?_)
      refine awp_ret ?_
      obtain rfl := Option.some.inj h
      refine ⟨.inr rfl, bl (decide (many360 = g_0.N)), rfl, ?_⟩
      exact Weak.e ⟨.k, trivial⟩
     ·intro K15 hK15
      refine awp_seqK fun K16 hK16 => awp_reg rfl <| AR.op rfl (aop_move (.inr rfl) rfl) <| AR.nil <| hK16 _ ?_
      refine awp_block <| awp_iter (fun (p : Int × Int) => G.inquestlaw14_SccParts_b1 g_0 r187 r189 p.1 p.2) (fun (p : Int × Int) => (⟨[(1, .pp [i64 g_0.N, .sl (List.map u64 g_0.Rows)] 0), (4, .sl (List.map (slA i64) r187)), (5, .sl (List.map i64 r189)), (6, i64 p.1), (7, i64 p.2)], .empty⟩ : St)) h (Weak.kt [1, 4, 5, 6, 7] rfl) ?_
      ·skip
       rintro ⟨many469, i470⟩ o1 h hx1
       replace h : G.inquestlaw14_SccParts_b1 g_0 r187 r189 many469 i470 = some o1 := h
       unfold G.inquestlaw14_SccParts_b1 at h
       refine awp_seqK fun K17 hK17 => awp_seqK fun K18 hK18 => awp_reg rfl <| AR.op rfl (aop_move (.inl rfl) rfl) <| AR.op rfl (aop_move (.inl rfl) rfl) <| AR.op rfl (t_len_sl (slA i64) r187 rfl rfl el42) <| AR.keep [1, 4, 5, 6, 7, 31, 33] rfl <| AR.op rfl (aop_lss rfl rfl rfl) ?_
       refine AR.nil <| hK18 _ (AWP.weak (Weak.kt [1, 4, 5, 6, 7, 34] rfl) ?_)
       refine awp_cond rfl (fun hb471 => ?_) (fun hb471 => ?_)
       ·replace h := Sh.if_t h hb471
        refine awp_skip <| hK17 _ (AWP.weak (Weak.kt [1, 4, 5, 6, 7] rfl) ?_)
        refine awp_seqJ (fun (p : Int) => (⟨[(1, .pp [i64 g_0.N, .sl (List.map u64 g_0.Rows)] 0), (4, .sl (List.map (slA i64) r187)), (5, .sl (List.map i64 r189)), (6, i64 p), (7, i64 i470)], .empty⟩ : St)) (fun (p : Int) => G.inquestlaw14_SccParts_j3 i470 p = some o1) ?_ ?_
        ·rintro many531 h
         replace h : G.inquestlaw14_SccParts_j3 i470 many531 = some o1 := h
         unfold G.inquestlaw14_SccParts_j3 at h
         refine awp_reg rfl <| AR.op rfl (aop_move (.inl rfl) rfl) <| AR.op rfl (aop_add rfl rfl rfl rfl) <| AR.op rfl (aop_move (.inr rfl) rfl) <| AR.nil ?_
         replace h := Sh.next_eq h
         exact ⟨_, h, Weak.kt [1, 4, 5, 6, 7] rfl⟩
        ·intro K19 hK19
         refine awp_block <| awp_seqK fun K20 hK20 => awp_seqK fun K21 hK21 => awp_reg rfl <| AR.op rfl (aop_move (.inl rfl) rfl) <| AR.op rfl (aop_move (.inl rfl) rfl) ?_
         obtain ⟨x536, hx536, h⟩ := Sh.bind_some' h
         obtain ⟨k537, hi537, hl537⟩ := Sh.idx_some hx536
         refine AR.op rfl (t_index_sl (slA i64) r187 hi537 hl537 rfl rfl rfl el42 rfl) <| AR.keep [1, 4, 5, 6, 7, 39] rfl <| AR.op (r := .sl (List.map i64 x536)) rfl (aop_load_pp rfl rfl sz25 rfl) <| AR.op rfl (t_len_sl i64 x536 rfl rfl el25) <| AR.op (r := bl (decide ((Sh.len x536) = 0))) rfl (aop_eql rfl rfl rfl) <| AR.nil <| hK21 _ (AWP.weak (Weak.kt [1, 4, 5, 6, 7, 42] rfl) ?_)
         refine awp_cond rfl (fun hb538 => ?_) (fun hb538 => ?_)
         ·replace h := Sh.if_t h hb538
          refine awp_seqK fun K22 hK22 => awp_reg rfl <| AR.op rfl (aop_move (.inr rfl) rfl) <| AR.nil <| hK22 _ (AWP.weak (Weak.kt [2] rfl) ?_)
          refine awp_ret ?_
          replace h := Sh.exit_eq h hx1
          obtain rfl := Option.some.inj h
          refine ⟨.inr rfl, bl false, rfl, ?_⟩
          exact Weak.e ⟨.k, trivial⟩
         ·replace h := Sh.if_f h hb538
          refine awp_skip <| hK20 _ (AWP.weak (Weak.kt [1, 4, 5, 6, 7] rfl) ?_)
          refine awp_seqJ (fun (p : Int) => (⟨[(1, .pp [i64 g_0.N, .sl (List.map u64 g_0.Rows)] 0), (4, .sl (List.map (slA i64) r187)), (5, .sl (List.map i64 r189)), (6, i64 p), (7, i64 i470)], .empty⟩ : St)) (fun (p : Int) => G.inquestlaw14_SccParts_j4 r187 i470 p = some o1) ?_ ?_
          ·rintro many586 h
           replace h : G.inquestlaw14_SccParts_j4 r187 i470 many586 = some o1 := h
           unfold G.inquestlaw14_SccParts_j4 at h
           refine awp_seqJ (fun (p : Bool) => (⟨[(1, .pp [i64 g_0.N, .sl (List.map u64 g_0.Rows)] 0), (4, .sl (List.map (slA i64) r187)), (5, .sl (List.map i64 r189)), (6, i64 many586), (7, i64 i470), (108, bl p)], .empty⟩ : St)) (fun (p : Bool) => G.inquestlaw14_SccParts_j5 i470 many586 p = some o1) ?_ ?_
           ·rintro v596 h
            replace h : G.inquestlaw14_SccParts_j5 i470 many586 v596 = some o1 := h
            unfold G.inquestlaw14_SccParts_j5 at h
            refine awp_cond rfl (fun hb597 => ?_) (fun hb597 => ?_)
            ·replace h := Sh.if_t h hb597
             refine awp_seqK fun K23 hK23 => awp_reg rfl <| AR.op rfl (aop_move (.inr rfl) rfl) <| AR.nil <| hK23 _ (AWP.weak (Weak.kt [2] rfl) ?_)
             refine awp_ret ?_
             replace h := Sh.exit_eq h hx1
             obtain rfl := Option.some.inj h
             refine ⟨.inr rfl, bl false, rfl, ?_⟩
             exact Weak.e ⟨.k, trivial⟩
            ·replace h := Sh.if_f h hb597
             refine awp_skip ?_
             exact hK19 many586 _ h (Weak.kt [1, 4, 5, 6, 7] rfl)
           ·intro K24 hK24
            refine awp_any [(true, false), (true, false), (true, false), (true, false), (true, false), (true, false), (true, false), (true, false), (true, false), (true, false), (true, false), (true, false), (true, false), (true, false), (true, false), (true, false), (true, false), (true, false)] (by kernel_rfl) (by kernel_rfl) rfl ?_
            refine ARH.dry rfl (fun _ => aop_move (.inl rfl) rfl) <| ARH.dry rfl (fun _ => aop_gtr rfl rfl rfl) <| ARH.dry rfl (fun _ => aop_move (.inl rfl) rfl) <| ARH.keep [1, 4, 5, 6, 7, 93] rfl ?_
            rcases Bool.eq_false_or_eq_true (decide ((0 : Int) < i470)) with hb598 | hb598
            ·rw [hb598]
             replace h := Sh.if_t h hb598
             refine ARH.dry rfl (fun _ => aop_move (.inl rfl) rfl) <| ARH.dry rfl (fun _ => aop_move (.inl rfl) rfl) ?_
             obtain ⟨x599, hx599, h⟩ := Sh.bind_some' h
             obtain ⟨k600, hi600, hl600⟩ := Sh.idx_some hx599
             refine ARH.dry rfl (fun _ => t_index_sl (slA i64) r187 hi600 hl600 rfl rfl rfl el42 rfl) <| ARH.keep [1, 4, 5, 6, 7, 93, 94, 95, 96] rfl <| ARH.dry (r := .sl (List.map i64 x599)) rfl (fun _ => aop_load_pp rfl rfl sz25 rfl) ?_
             obtain ⟨x601, hx601, h⟩ := Sh.bind_some' h
             obtain ⟨k602, hi602, hl602⟩ := Sh.idx_some hx601
             refine ARH.dry rfl (fun _ => t_index_sl i64 x599 hi602 hl602 rfl rfl rfl el25 rfl) <| ARH.dry (r := i64 x601) rfl (fun _ => aop_load_pp rfl rfl sz3 rfl) <| ARH.keep [1, 4, 5, 6, 7, 93, 94, 95, 96, 97, 98, 99] rfl <| ARH.dry rfl (fun _ => aop_move (.inl rfl) rfl) <| ARH.dry rfl (fun _ => aop_move (.inl rfl) rfl) <| ARH.dry rfl (fun _ => aop_sub rfl rfl rfl rfl) <| ARH.keep [1, 4, 5, 6, 7, 93, 94, 95, 96, 97, 98, 99, 100, 101, 102] rfl ?_
             obtain ⟨x603, hx603, h⟩ := Sh.bind_some' h
             obtain ⟨k604, hi604, hl604⟩ := Sh.idx_some hx603
             refine ARH.dry rfl (fun _ => t_index_sl (slA i64) r187 hi604 hl604 rfl rfl rfl el42 rfl) <| ARH.dry (r := .sl (List.map i64 x603)) rfl (fun _ => aop_load_pp rfl rfl sz25 rfl) ?_
             obtain ⟨x605, hx605, h⟩ := Sh.bind_some' h
             obtain ⟨k606, hi606, hl606⟩ := Sh.idx_some hx605
             refine ARH.dry rfl (fun _ => t_index_sl i64 x603 hi606 hl606 rfl rfl rfl el25 rfl) <| ARH.keep [1, 4, 5, 6, 7, 93, 94, 95, 96, 97, 98, 99, 100, 101, 102, 103, 104, 105] rfl <| ARH.dry (r := i64 x605) rfl (fun _ => aop_load_pp rfl rfl sz3 rfl) <| ARH.dry rfl (fun _ => aop_leq rfl rfl rfl) <| ARH.dry rfl (fun _ => aop_pick rfl rfl rfl) <| ARH.nil ?_
             exact hK24 (decide (x601 ≤ x605)) _ h (Weak.kt [1, 4, 5, 6, 7, 108] rfl)
            ·rw [hb598]
             replace h := Sh.if_f h hb598
             refine ARH.skip rfl <| ARH.skip rfl <| ARH.skip rfl <| ARH.keep [1, 4, 5, 6, 7, 93, 94, 95, 96] rfl <| ARH.skip rfl <| ARH.skip rfl <| ARH.skip rfl <| ARH.keep [1, 4, 5, 6, 7, 93, 94, 95, 96, 97, 98, 99] rfl ?_
             refine ARH.skip rfl <| ARH.skip rfl <| ARH.skip rfl <| ARH.keep [1, 4, 5, 6, 7, 93, 94, 95, 96, 97, 98, 99, 100, 101, 102] rfl <| ARH.skip rfl <| ARH.skip rfl <| ARH.skip rfl <| ARH.keep [1, 4, 5, 6, 7, 93, 94, 95, 96, 97, 98, 99, 100, 101, 102, 103, 104, 105] rfl ?_
             refine ARH.skip rfl <| ARH.skip rfl <| ARH.dry rfl (fun _ => aop_pick rfl rfl rfl) <| ARH.nil ?_
             exact hK24 false _ h (Weak.kt [1, 4, 5, 6, 7, 108] rfl)
          ·intro K25 hK25
           refine awp_seqK fun K26 hK26 => awp_reg rfl <| AR.op rfl (aop_move (.inr rfl) rfl) <| AR.nil <| hK26 _ ?_
           refine awp_block <| awp_iter (fun (p : Int × Int) => G.inquestlaw14_SccParts_b2 g_0 r187 r189 i470 p.1 p.2) (fun (p : Int × Int) => (⟨[(1, .pp [i64 g_0.N, .sl (List.map u64 g_0.Rows)] 0), (4, .sl (List.map (slA i64) r187)), (5, .sl (List.map i64 r189)), (6, i64 p.1), (7, i64 i470), (8, i64 p.2)], .empty⟩ : St)) h (Weak.kt [1, 4, 5, 6, 7, 8] rfl) ?_
           ·skip
            rintro ⟨many636, k637⟩ o2 h hx2
            replace h : G.inquestlaw14_SccParts_b2 g_0 r187 r189 i470 many636 k637 = some o2 := h
            unfold G.inquestlaw14_SccParts_b2 at h
            refine awp_seqK fun K27 hK27 => awp_seqK fun K28 hK28 => awp_reg rfl <| AR.op rfl (aop_move (.inl rfl) rfl) <| AR.op rfl (aop_move (.inl rfl) rfl) <| AR.op rfl (aop_move (.inl rfl) rfl) <| AR.keep [1, 4, 5, 6, 7, 8, 43, 44, 45] rfl ?_
            obtain ⟨x642, hx642, h⟩ := Sh.bind_some' h
            obtain ⟨k643, hi643, hl643⟩ := Sh.idx_some hx642
            refine AR.op rfl (t_index_sl (slA i64) r187 hi643 hl643 rfl rfl rfl el42 rfl) <| AR.op (r := .sl (List.map i64 x642)) rfl (aop_load_pp rfl rfl sz25 rfl) <| AR.op rfl (t_len_sl i64 x642 rfl rfl el25) <| AR.keep [1, 4, 5, 6, 7, 8, 43, 48] rfl <| AR.op rfl (aop_lss rfl rfl rfl) <| AR.nil <| hK28 _ (AWP.weak (Weak.kt [1, 4, 5, 6, 7, 8, 49] rfl) ?_)
            refine awp_cond rfl (fun hb644 => ?_) (fun hb644 => ?_)
            ·replace h := Sh.if_t h hb644
             refine awp_skip <| hK27 _ (AWP.weak (Weak.kt [1, 4, 5, 6, 7, 8] rfl) ?_)
             refine awp_seqK fun K29 hK29 => awp_block <| awp_seqK fun K30 hK30 => awp_reg rfl <| AR.op rfl (aop_move (.inl rfl) rfl) <| AR.op rfl (aop_move (.inl rfl) rfl) ?_
             obtain ⟨x663, hx663, h⟩ := Sh.bind_some' h
             obtain ⟨k664, hi664, hl664⟩ := Sh.idx_some hx663
             refine AR.op rfl (t_index_sl (slA i64) r187 hi664 hl664 rfl rfl rfl el42 rfl) <| AR.keep [1, 4, 5, 6, 7, 8, 54] rfl <| AR.op (r := .sl (List.map i64 x663)) rfl (aop_load_pp rfl rfl sz25 rfl) <| AR.op rfl (aop_move (.inl rfl) rfl) ?_
             obtain ⟨x665, hx665, h⟩ := Sh.bind_some' h
             obtain ⟨k666, hi666, hl666⟩ := Sh.idx_some hx665
             refine AR.op rfl (t_index_sl i64 x663 hi666 hl666 rfl rfl rfl el25 rfl) <| AR.keep [1, 4, 5, 6, 7, 8, 57] rfl <| AR.op (r := i64 x665) rfl (aop_load_pp rfl rfl sz3 rfl) <| AR.op rfl (aop_move (.inr rfl) rfl) <| AR.nil <| hK30 _ (AWP.weak (Weak.kt [1, 4, 5, 6, 7, 8, 9] rfl) ?_)
             refine awp_seqK fun K31 hK31 => awp_seqJ (fun (p : Bool) => (⟨[(1, .pp [i64 g_0.N, .sl (List.map u64 g_0.Rows)] 0), (4, .sl (List.map (slA i64) r187)), (5, .sl (List.map i64 r189)), (6, i64 many636), (7, i64 i470), (8, i64 k637), (9, i64 x665), (82, bl p)], .empty⟩ : St)) (fun (p : Bool) => G.inquestlaw14_SccParts_j6 r189 i470 many636 k637 x665 p = some o2) ?_ ?_
             ·rintro v682 h
              replace h : G.inquestlaw14_SccParts_j6 r189 i470 many636 k637 x665 v682 = some o2 := h
              unfold G.inquestlaw14_SccParts_j6 at h
              refine awp_cond rfl (fun hb683 => ?_) (fun hb683 => ?_)
              ·replace h := Sh.if_t h hb683
               refine awp_seqK fun K32 hK32 => awp_reg rfl <| AR.op rfl (aop_move (.inr rfl) rfl) <| AR.nil <| hK32 _ (AWP.weak (Weak.kt [2] rfl) ?_)
               refine awp_ret ?_
               replace h := Sh.exit_eq h hx2
               replace h := Sh.exit_eq h hx1
               obtain rfl := Option.some.inj h
               refine ⟨.inr rfl, bl false, rfl, ?_⟩
               exact Weak.e ⟨.k, trivial⟩
              ·replace h := Sh.if_f h hb683
               refine awp_skip <| hK31 _ (AWP.weak (Weak.kt [1, 4, 5, 6, 7, 8, 9] rfl) ?_)
               refine awp_seqK fun K33 hK33 => awp_seqK fun K34 hK34 => awp_reg rfl <| AR.op rfl (aop_move (.inl rfl) rfl) <| AR.op rfl (aop_move (.inl rfl) rfl) ?_
               obtain ⟨x688, hx688, h⟩ := Sh.bind_some' h
               obtain ⟨k689, hi689, hl689⟩ := Sh.idx_some hx688
               refine AR.op rfl (t_index_sl i64 r189 hi689 hl689 rfl rfl rfl el25 rfl) <| AR.keep [1, 4, 5, 6, 7, 8, 85] rfl <| AR.op (r := i64 x688) rfl (aop_load_pp rfl rfl sz3 rfl) <| AR.op rfl (aop_move (.inl rfl) rfl) <| AR.op (r := bl (decide (x688 ≠ i470))) rfl (aop_neq rfl rfl rfl) <| AR.nil <| hK34 _ (AWP.weak (Weak.kt [1, 4, 5, 6, 7, 8, 88] rfl) ?_)
               refine awp_cond rfl (fun hb690 => ?_) (fun hb690 => ?_)
               ·replace h := Sh.if_t h hb690
                refine awp_seqK fun K35 hK35 => awp_reg rfl <| AR.op rfl (aop_move (.inr rfl) rfl) <| AR.nil <| hK35 _ (AWP.weak (Weak.kt [2] rfl) ?_)
                refine awp_ret ?_
                replace h := Sh.exit_eq h hx2
                replace h := Sh.exit_eq h hx1
                obtain rfl := Option.some.inj h
                refine ⟨.inr rfl, bl false, rfl, ?_⟩
                exact Weak.e ⟨.k, trivial⟩
               ·replace h := Sh.if_f h hb690
                refine awp_skip <| hK33 _ (AWP.weak (Weak.kt [1, 4, 5, 6, 7, 8] rfl) ?_)
                refine awp_reg rfl <| AR.op rfl (aop_move (.inl rfl) rfl) <| AR.op rfl (aop_add rfl rfl rfl rfl) <| AR.op rfl (aop_move (.inr rfl) rfl) <| AR.nil <| hK29 _ (AWP.weak (Weak.kt [1, 4, 5, 6, 7, 8] rfl) ?_)
                refine awp_reg rfl <| AR.op rfl (aop_move (.inl rfl) rfl) <| AR.op rfl (aop_add rfl rfl rfl rfl) <| AR.op rfl (aop_move (.inr rfl) rfl) <| AR.nil ?_
                replace h := Sh.next_eq h
                exact ⟨_, h, Weak.kt [1, 4, 5, 6, 7, 8] rfl⟩
             ·intro K36 hK36
              refine awp_reg rfl <| AR.op rfl (aop_move (.inl rfl) rfl) <| AR.op rfl (aop_lss rfl rfl rfl) <| AR.op rfl (aop_move (.inl rfl) rfl) <| AR.keep [1, 4, 5, 6, 7, 8, 9, 61] rfl ?_
              rcases Bool.eq_false_or_eq_true (decide (x665 < 0)) with hb691 | hb691
              ·rw [hb691]
               replace h := Sh.if_t h hb691
               refine AR.skip rfl <| AR.skip rfl <| AR.skip rfl <| AR.keep [1, 4, 5, 6, 7, 8, 9, 61, 62, 63, 64] rfl <| AR.skip rfl <| AR.op rfl (aop_pick rfl rfl rfl) <| AR.op rfl (aop_move (.inl rfl) rfl) <| AR.keep [1, 4, 5, 6, 7, 8, 9, 62, 63, 64, 65, 67] rfl ?_
               refine AR.skip rfl <| AR.skip rfl <| AR.skip rfl <| AR.keep [1, 4, 5, 6, 7, 8, 9, 62, 63, 64, 65, 67, 68, 69, 70] rfl <| AR.skip rfl <| AR.skip rfl <| AR.skip rfl <| AR.keep [1, 4, 5, 6, 7, 8, 9, 62, 63, 64, 65, 67, 68, 69, 70, 71, 72, 73] rfl ?_
               refine AR.skip rfl <| AR.skip rfl <| AR.skip rfl <| AR.keep [1, 4, 5, 6, 7, 8, 9, 62, 63, 64, 65, 67, 68, 69, 70, 71, 72, 73, 74, 75, 76] rfl <| AR.skip rfl <| AR.skip rfl <| AR.skip rfl <| AR.keep [1, 4, 5, 6, 7, 8, 9, 62, 63, 64, 65, 67, 68, 69, 70, 71, 72, 73, 74, 75, 76, 77, 78, 79] rfl ?_
               refine AR.skip rfl <| AR.skip rfl <| AR.op rfl (aop_pick rfl rfl rfl) <| AR.nil ?_
               exact hK36 true _ h (Weak.kt [1, 4, 5, 6, 7, 8, 9, 82] rfl)
              ·rw [hb691]
               replace h := Sh.if_f h hb691
               refine AR.op rfl (aop_move (.inl rfl) rfl) <| AR.op rfl (aop_field_pp rfl rfl fd24_0 (by decide)) <| AR.op (r := i64 g_0.N) rfl (aop_load_pp rfl rfl sz3 rfl) <| AR.keep [1, 4, 5, 6, 7, 8, 9, 61, 62, 63, 64] rfl <| AR.op rfl (aop_geq rfl rfl rfl) <| AR.op rfl (aop_pick rfl rfl rfl) <| AR.op rfl (aop_move (.inl rfl) rfl) <| AR.keep [1, 4, 5, 6, 7, 8, 9, 62, 63, 64, 65, 67] rfl ?_
               rcases Bool.eq_false_or_eq_true (decide (g_0.N ≤ x665)) with hb692 | hb692
               ·rw [hb692]
                replace h := Sh.if_t h hb692
                refine AR.skip rfl <| AR.skip rfl <| AR.skip rfl <| AR.keep [1, 4, 5, 6, 7, 8, 9, 62, 63, 64, 65, 67, 68, 69, 70] rfl <| AR.skip rfl <| AR.skip rfl <| AR.skip rfl <| AR.keep [1, 4, 5, 6, 7, 8, 9, 62, 63, 64, 65, 67, 68, 69, 70, 71, 72, 73] rfl ?_
                refine AR.skip rfl <| AR.skip rfl <| AR.skip rfl <| AR.keep [1, 4, 5, 6, 7, 8, 9, 62, 63, 64, 65, 67, 68, 69, 70, 71, 72, 73, 74, 75, 76] rfl <| AR.skip rfl <| AR.skip rfl <| AR.skip rfl <| AR.keep [1, 4, 5, 6, 7, 8, 9, 62, 63, 64, 65, 67, 68, 69, 70, 71, 72, 73, 74, 75, 76, 77, 78, 79] rfl ?_
                refine AR.skip rfl <| AR.skip rfl <| AR.op rfl (aop_pick rfl rfl rfl) <| AR.nil ?_
                exact hK36 true _ h (Weak.kt [1, 4, 5, 6, 7, 8, 9, 82] rfl)
               ·rw [hb692]
                replace h := Sh.if_f h hb692
                refine AR.op rfl (aop_move (.inl rfl) rfl) <| AR.op rfl (aop_gtr rfl rfl rfl) <| AR.op rfl (aop_move (.inl rfl) rfl) <| AR.keep [1, 4, 5, 6, 7, 8, 9, 62, 63, 64, 65, 67, 68, 69, 70] rfl ?_
                rcases Bool.eq_false_or_eq_true (decide ((0 : Int) < k637)) with hb693 | hb693
                ·rw [hb693]
                 replace h := Sh.if_t h hb693
                 refine AR.op rfl (aop_move (.inl rfl) rfl) <| AR.op rfl (aop_move (.inl rfl) rfl) <| AR.op rfl (aop_move (.inl rfl) rfl) <| AR.keep [1, 4, 5, 6, 7, 8, 9, 62, 63, 64, 65, 67, 68, 69, 70, 71, 72, 73] rfl ?_
                 obtain ⟨x694, hx694, h⟩ := Sh.bind_some' h
                 obtain ⟨k695, hi695, hl695⟩ := Sh.idx_some hx694
                 refine AR.op rfl (t_index_sl (slA i64) r187 hi695 hl695 rfl rfl rfl el42 rfl) <| AR.op (r := .sl (List.map i64 x694)) rfl (aop_load_pp rfl rfl sz25 rfl) <| AR.op rfl (aop_move (.inl rfl) rfl) <| AR.keep [1, 4, 5, 6, 7, 8, 9, 62, 63, 64, 65, 67, 68, 69, 70, 71, 72, 73, 74, 75, 76] rfl <| AR.op rfl (aop_sub rfl rfl rfl rfl) ?_
                 obtain ⟨x696, hx696, h⟩ := Sh.bind_some' h
                 obtain ⟨k697, hi697, hl697⟩ := Sh.idx_some hx696
                 refine AR.op rfl (t_index_sl i64 x694 hi697 hl697 rfl rfl rfl el25 rfl) <| AR.op (r := i64 x696) rfl (aop_load_pp rfl rfl sz3 rfl) <| AR.keep [1, 4, 5, 6, 7, 8, 9, 62, 63, 64, 65, 67, 68, 69, 70, 71, 72, 73, 74, 75, 76, 77, 78, 79] rfl <| AR.op rfl (aop_leq rfl rfl rfl) <| AR.op rfl (aop_pick rfl rfl rfl) <| AR.op rfl (aop_pick rfl rfl rfl) <| AR.nil ?_
                 exact hK36 (decide (x665 ≤ x696)) _ h (Weak.kt [1, 4, 5, 6, 7, 8, 9, 82] rfl)
                ·rw [hb693]
                 replace h := Sh.if_f h hb693
                 refine AR.skip rfl <| AR.skip rfl <| AR.skip rfl <| AR.keep [1, 4, 5, 6, 7, 8, 9, 62, 63, 64, 65, 67, 68, 69, 70, 71, 72, 73] rfl <| AR.skip rfl <| AR.skip rfl <| AR.skip rfl <| AR.keep [1, 4, 5, 6, 7, 8, 9, 62, 63, 64, 65, 67, 68, 69, 70, 71, 72, 73, 74, 75, 76] rfl ?_
                 refine AR.skip rfl <| AR.skip rfl <| AR.skip rfl <| AR.keep [1, 4, 5, 6, 7, 8, 9, 62, 63, 64, 65, 67, 68, 69, 70, 71, 72, 73, 74, 75, 76, 77, 78, 79] rfl <| AR.skip rfl <| AR.op rfl (aop_pick rfl rfl rfl) <| AR.op rfl (aop_pick rfl rfl rfl) <| AR.nil ?_
                 exact hK36 false _ h (Weak.kt [1, 4, 5, 6, 7, 8, 9, 82] rfl)
            ·replace h := Sh.if_f h hb644
             refine awp_exit ?_
             replace h := Sh.exit_eq h hx2
             exact hK25 many636 _ h (Weak.kt [1, 4, 5, 6, 7] rfl)
       ·replace h := Sh.if_f h hb471
        refine awp_exit ?_
        replace h := Sh.exit_eq h hx1
        exact hK15 many469 _ h (Weak.kt [1, 6] rfl)
  ·intro K37 hK37
   refine awp_reg rfl <| AR.op rfl (aop_field_pp rfl rfl fd24_1 (by decide)) <| AR.op (r := .sl (List.map u64 g_0.Rows)) rfl (aop_load_pp rfl rfl sz22 rfl) <| AR.op rfl (t_len_sl u64 g_0.Rows rfl rfl el22) <| AR.keep [1, 15] rfl <| AR.op rfl (aop_gtr rfl rfl rfl) <| AR.op rfl (aop_move (.inl rfl) rfl) ?_
   rcases Bool.eq_false_or_eq_true (decide ((70 : Int) < (Sh.len g_0.Rows))) with hb698 | hb698
   ·rw [hb698]
    replace h := Sh.if_t h hb698
    refine AR.skip rfl <| AR.keep [1, 17, 18] rfl <| AR.skip rfl <| AR.skip rfl <| AR.op rfl (aop_pick rfl rfl rfl) <| AR.nil ?_
    exact hK37 true _ h (Weak.kt [1, 21] rfl)
   ·rw [hb698]
    replace h := Sh.if_f h hb698
    refine AR.op (r := G.graph_Graph.av g_0) rfl (aop_load_pp rfl rfl sz24 rfl) <| AR.keep [1, 17, 18] rfl ?_
    obtain ⟨r699, hr699, h⟩ := Sh.bind_some' h
    refine AR.op (r := bl r699) rfl (aop_call1 rfl rfl (by simp) (graph_Right_ok hT hr699)) <| AR.op (r := bl (!r699)) rfl (aop_not rfl rfl) <| AR.op rfl (aop_pick rfl rfl rfl) <| AR.nil ?_
    exact hK37 (!r699) _ h (Weak.kt [1, 21] rfl)
theorem inquestlaw14_SccParts_ok {W0 : World} (hT : Tab W0) {g_0 : G.graph_Graph} {r : Bool} (h : G.inquestlaw14_SccParts g_0 = some r) : Fun1 Tryd.prog W0 7 [G.graph_Graph.av g_0] (bl r) := Fun1.two (inquestlaw14_SccParts_ok0 hT h) (by simp)

end Wk
