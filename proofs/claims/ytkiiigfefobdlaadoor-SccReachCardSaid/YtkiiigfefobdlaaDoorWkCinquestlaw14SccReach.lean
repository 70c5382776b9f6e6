/- That a statement does what its plain function says. -/
import Derived.Test.YtkiiigfefobdlaaDoorWkCinquestlaw14
open Go Go.Av Go.Proofs
set_option linter.unusedVariables false
set_option maxHeartbeats 8000000
set_option maxRecDepth 20000
namespace Wk
theorem inquestlaw14_SccReach_ok0 {W0 : World} (hT : Tab W0) {g_0 : G.graph_Graph} {a_1 : Int} {b_2 : Int} {r : Bool} (h : G.inquestlaw14_SccReach g_0 a_1 b_2 = some r) : Fun2 Tryd.prog W0 8 [G.graph_Graph.av g_0, i64 a_1, i64 b_2] (bl r) .empty := by
 refine fun2_of_awp Tryd.func8 rfl (by kernel_rfl) Tryd.ntmps8 (by simp) ?_
 unfold G.inquestlaw14_SccReach at h
 show AWP _ _ _ _ ⟨[(0, G.graph_Graph.av g_0), (1, i64 a_1), (2, i64 b_2)], .empty⟩ _
 refine awp_seqK fun K1 hK1 => awp_reg rfl <| AR.op (r := .ref 0 0 0) rfl (aop_box 2 [G.graph_Graph.av g_0] rfl rfl rfl (.inl ⟨rfl, rfl⟩)) <| AR.op rfl (aop_move (.inr rfl) rfl) <| AR.nil <| hK1 _ (AWP.weak (Weak.e (fr' := [(1, i64 a_1), (2, i64 b_2), (3, .pp [i64 g_0.N, .sl (List.map u64 g_0.Rows)] 0)]) (H' := .empty) ⟨.k, .k, ⟨_, rfl, .frzA rfl rfl rfl rfl (by simp)⟩, trivial⟩) ?_)
 refine awp_seqK fun K2 hK2 => awp_reg rfl ?_
 obtain ⟨r44, hr44, h⟩ := Sh.bind_some' h
 refine AR.op (r := bl r44) rfl (aop_call1 rfl rfl (by simp) (inquestlaw14_awake_ok hT hr44)) <| AR.op rfl (aop_move (.inr rfl) rfl) <| AR.nil <| hK2 _ (AWP.weak (Weak.kt [1, 2, 3, 7] rfl) ?_)
 refine awp_seqK fun K3 hK3 => awp_seqK fun K4 hK4 => awp_reg rfl <| AR.op rfl (aop_move (.inl rfl) rfl) <| AR.op (r := bl (!r44)) rfl (aop_not rfl rfl) <| AR.nil <| hK4 _ (AWP.weak (Weak.kt [1, 2, 3, 16] rfl) ?_)
 refine awp_cond rfl (fun hb45 => ?_) (fun hb45 => ?_)
 ·replace h := Sh.if_t h hb45
  refine awp_seqK fun K5 hK5 => awp_reg rfl <| AR.op rfl (aop_move (.inr rfl) rfl) <| AR.nil <| hK5 _ (AWP.weak (Weak.kt [6] rfl) ?_)
  refine awp_ret ?_
  obtain rfl := Option.some.inj h
  refine ⟨.inr rfl, bl false, rfl, ?_⟩
  exact Weak.e ⟨.k, trivial⟩
 ·replace h := Sh.if_f h hb45
  refine awp_skip <| hK3 _ (AWP.weak (Weak.kt [1, 2, 3] rfl) ?_)
  refine awp_seqK fun K6 hK6 => awp_seqJ (fun (p : Bool) => (⟨[(1, i64 a_1), (2, i64 b_2), (3, .pp [i64 g_0.N, .sl (List.map u64 g_0.Rows)] 0), (45, bl p)], .empty⟩ : St)) (fun (p : Bool) => G.inquestlaw14_SccReach_j1 g_0 a_1 b_2 p = some r) ?_ ?_
  ·rintro v59 h
   replace h : G.inquestlaw14_SccReach_j1 g_0 a_1 b_2 v59 = some r := h
   unfold G.inquestlaw14_SccReach_j1 at h
   refine awp_cond rfl (fun hb60 => ?_) (fun hb60 => ?_)
   ·replace h := Sh.if_t h hb60
    refine awp_seqK fun K7 hK7 => awp_reg rfl <| AR.op rfl (aop_move (.inr rfl) rfl) <| AR.nil <| hK7 _ (AWP.weak (Weak.kt [6] rfl) ?_)
    refine awp_ret ?_
    obtain rfl := Option.some.inj h
    refine ⟨.inr rfl, bl true, rfl, ?_⟩
    exact Weak.e ⟨.k, trivial⟩
   ·replace h := Sh.if_f h hb60
    refine awp_skip <| hK6 _ (AWP.weak (Weak.kt [1, 2, 3] rfl) ?_)
    refine awp_seqK fun K8 hK8 => awp_reg rfl <| AR.op (r := G.graph_Graph.av g_0) rfl (aop_load_pp rfl rfl sz24 rfl) ?_
    obtain ⟨r62, hr62, h⟩ := Sh.bind_some' h
    refine AR.op (r := .tuple [G.graph_Graph.av r62.1, i64 r62.2]) rfl (aop_call1 rfl rfl (by simp) (reach_Close_ok hT hr62)) <| AR.op rfl (aop_move (.inl rfl) rfl) <| AR.keep [1, 2, 3, 46] rfl <| AR.op (r := G.graph_Graph.av r62.1) rfl (aop_extract rfl rfl rfl) <| AR.op (r := i64 r62.2) rfl (aop_extract rfl rfl rfl) <| AR.op (r := .ref 0 0 0) rfl (aop_alloc 2 [.agg [i64 0, nilS]] rfl zr24 (by kernel_rfl) (.inl ⟨rfl, rfl⟩)) <| AR.keep [1, 2, 3, 49, 50, 8] rfl <| AR.op rfl (aop_store (e' := G.graph_Graph.av r62.1) rfl rfl rfl rfl rfl rfl sz24 rfl dt rfl) ?_
    refine AR.op rfl (aop_move (.inr rfl) rfl) <| AR.nil <| hK8 _ (AWP.weak (Weak.e (fr' := [(1, i64 a_1), (2, i64 b_2), (3, .pp [i64 g_0.N, .sl (List.map u64 g_0.Rows)] 0), (8, .pp [i64 r62.1.N, .sl (List.map u64 r62.1.Rows)] 0), (9, i64 r62.2)]) (H' := .empty) ⟨.k, .k, .k, ⟨_, rfl, .frzA rfl rfl rfl rfl (by simp)⟩, .k, trivial⟩) ?_)
    refine awp_seqK fun K9 hK9 => awp_reg rfl <| AR.op (r := G.graph_Graph.av g_0) rfl (aop_load_pp rfl rfl sz24 rfl) ?_
    obtain ⟨r64, hr64, h⟩ := Sh.bind_some' h
    refine AR.op (r := .sl (List.map i64 r64)) rfl (aop_call1 rfl rfl (by simp) (scc_Which_ok hT hr64)) <| AR.op rfl (aop_move (.inr rfl) rfl) <| AR.nil <| hK9 _ (AWP.weak (Weak.kt [1, 2, 3, 8, 9, 10] rfl) ?_)
    refine awp_seqK fun K10 hK10 => awp_seqJ (fun (p : Bool) => (⟨[(1, i64 a_1), (2, i64 b_2), (3, .pp [i64 g_0.N, .sl (List.map u64 g_0.Rows)] 0), (8, .pp [i64 r62.1.N, .sl (List.map u64 r62.1.Rows)] 0), (10, .sl (List.map i64 r64)), (61, bl p)], .empty⟩ : St)) (fun (p : Bool) => G.inquestlaw14_SccReach_j2 g_0 a_1 b_2 r62 r64 p = some r) ?_ ?_
    ·rintro v68 h
     replace h : G.inquestlaw14_SccReach_j2 g_0 a_1 b_2 r62 r64 v68 = some r := h
     unfold G.inquestlaw14_SccReach_j2 at h
     refine awp_cond rfl (fun hb69 => ?_) (fun hb69 => ?_)
     ·replace h := Sh.if_t h hb69
      refine awp_seqK fun K11 hK11 => awp_reg rfl <| AR.op rfl (aop_move (.inr rfl) rfl) <| AR.nil <| hK11 _ (AWP.weak (Weak.kt [6] rfl) ?_)
      refine awp_ret ?_
      obtain rfl := Option.some.inj h
      refine ⟨.inr rfl, bl false, rfl, ?_⟩
      exact Weak.e ⟨.k, trivial⟩
     ·replace h := Sh.if_f h hb69
      refine awp_skip <| hK10 _ (AWP.weak (Weak.kt [1, 2, 3, 8, 10] rfl) ?_)
      refine awp_seqK fun K12 hK12 => awp_reg rfl <| AR.op rfl (aop_move (.inr rfl) rfl) <| AR.nil <| hK12 _ ?_
      refine awp_seqK fun K13 hK13 => awp_reg rfl <| AR.op (r := G.graph_Graph.av g_0) rfl (aop_load_pp rfl rfl sz24 rfl) ?_
      obtain ⟨r71, hr71, h⟩ := Sh.bind_some' h
      refine AR.op (r := .sl (List.map i64 r71)) rfl (aop_call1 rfl rfl (by simp) (scc_Inner_ok hT hr71)) <| AR.op rfl (aop_move (.inr rfl) rfl) <| AR.nil <| hK13 _ (AWP.weak (Weak.kt [1, 2, 8, 10, 11, 12] rfl) ?_)
      refine awp_seqJ (fun (p : Bool) => (⟨[(1, i64 a_1), (2, i64 b_2), (8, .pp [i64 r62.1.N, .sl (List.map u64 r62.1.Rows)] 0), (10, .sl (List.map i64 r64)), (11, bl p)], .empty⟩ : St)) (fun (p : Bool) => G.inquestlaw14_SccReach_j3 a_1 b_2 r62 r64 p = some r) ?_ ?_
      ·rintro in86 h
       replace h : G.inquestlaw14_SccReach_j3 a_1 b_2 r62 r64 in86 = some r := h
       unfold G.inquestlaw14_SccReach_j3 at h
       refine awp_seqK fun K14 hK14 => awp_any [(true, false), (true, false), (true, false), (true, false), (true, false), (true, false), (true, false), (true, false), (true, false), (true, false), (true, false), (true, false), (true, false), (true, false), (true, false), (true, false), (true, false), (true, false), (true, false), (true, false), (true, false), (true, false), (true, false), (true, false), (true, false), (true, false), (true, false), (true, false), (true, false), (true, false), (true, false), (true, false), (true, false), (true, false)] (by kernel_rfl) (by kernel_rfl) rfl ?_
       refine ARH.dry rfl (fun _ => aop_move (.inl rfl) rfl) <| ARH.dry rfl (fun _ => aop_move (.inl rfl) rfl) ?_
       obtain ⟨x101, hx101, h⟩ := Sh.bind_some' h
       obtain ⟨k102, hi102, hl102⟩ := Sh.idx_some hx101
       refine ARH.dry rfl (fun _ => t_index_sl i64 r64 hi102 hl102 rfl rfl rfl el25 rfl) <| ARH.keep [1, 2, 8, 10, 11, 81] rfl <| ARH.dry (r := i64 x101) rfl (fun _ => aop_load_pp rfl rfl sz3 rfl) <| ARH.dry rfl (fun _ => aop_move (.inl rfl) rfl) <| ARH.dry rfl (fun _ => aop_move (.inl rfl) rfl) <| ARH.keep [1, 2, 8, 11, 82, 83, 84] rfl ?_
       obtain ⟨x103, hx103, h⟩ := Sh.bind_some' h
       obtain ⟨k104, hi104, hl104⟩ := Sh.idx_some hx103
       refine ARH.dry rfl (fun _ => t_index_sl i64 r64 hi104 hl104 rfl rfl rfl el25 rfl) <| ARH.dry (r := i64 x103) rfl (fun _ => aop_load_pp rfl rfl sz3 rfl) <| ARH.dry (r := bl (decide (x101 = x103))) rfl (fun _ => aop_eql rfl rfl rfl) <| ARH.keep [1, 2, 8, 11, 87] rfl <| ARH.dry rfl (fun _ => aop_move (.inl rfl) rfl) <| ARH.dry rfl (fun _ => aop_move (.inl rfl) rfl) <| ARH.dry (r := bl (decide (a_1 = b_2))) rfl (fun _ => aop_eql rfl rfl rfl) <| ARH.keep [1, 2, 8, 11, 87, 90] rfl ?_
       refine ARH.dry rfl (fun _ => aop_move (.inl rfl) rfl) ?_
       rcases Bool.eq_false_or_eq_true (decide (a_1 = b_2)) with hb105 | hb105
       ·rw [hb105]
        replace h := Sh.if_t h hb105
        refine ARH.skip rfl <| ARH.skip rfl <| ARH.keep [1, 2, 8, 11, 87, 91, 92, 93] rfl <| ARH.skip rfl <| ARH.skip rfl <| ARH.skip rfl <| ARH.keep [1, 2, 8, 11, 87, 91, 96] rfl <| ARH.skip rfl ?_
        refine ARH.skip rfl <| ARH.skip rfl <| ARH.keep [1, 8, 11, 87, 91, 96, 97, 98, 99] rfl <| ARH.skip rfl <| ARH.skip rfl <| ARH.dry rfl (fun _ => aop_pick rfl rfl rfl) <| ARH.keep [1, 8, 11, 87, 102] rfl <| ARH.dry (r := bl ((decide (x101 = x103)) == true)) rfl (fun _ => aop_eqb rfl rfl rfl Tryd.underlying4) ?_
        refine ARH.dry rfl (fun _ => aop_move (.inl rfl) rfl) ?_
        rcases Bool.eq_false_or_eq_true ((decide (x101 = x103)) == true) with hb106 | hb106
        ·rw [hb106]
         replace h := Sh.if_t h hb106
         refine ARH.dry rfl (fun _ => aop_move (.inl rfl) rfl) <| ARH.keep [1, 8, 104, 105] rfl <| ARH.dry (r := G.graph_Graph.av r62.1) rfl (fun _ => aop_load_pp rfl rfl sz24 rfl) <| ARH.dry rfl (fun _ => aop_move (.inl rfl) rfl) <| ARH.dry rfl (fun _ => aop_move (.inl rfl) rfl) <| ARH.keep [104, 105, 106, 107, 108] rfl ?_
         obtain ⟨r107, hr107, h⟩ := Sh.bind_some' h
         refine ARH.dry (r := bl r107) rfl (fun _ => aop_call1 rfl rfl (by simp) (graph_Has_ok hT hr107)) <| ARH.dry (r := bl (in86 == r107)) rfl (fun _ => aop_eqb rfl rfl rfl Tryd.underlying4) <| ARH.dry rfl (fun _ => aop_pick rfl rfl rfl) <| ARH.keep [111] rfl <| ARH.dry rfl (fun _ => aop_move (.inr rfl) rfl) <| ARH.nil <| hK14 _ (AWP.weak (Weak.kt [6] rfl) ?_)
         refine awp_ret ?_
         obtain rfl := Option.some.inj h
         refine ⟨.inr rfl, bl (in86 == r107), rfl, ?_⟩
         exact Weak.e ⟨.k, trivial⟩
        ·rw [hb106]
         replace h := Sh.if_f h hb106
         refine ARH.skip rfl <| ARH.keep [1, 8, 104, 105] rfl <| ARH.skip rfl <| ARH.skip rfl <| ARH.skip rfl <| ARH.keep [104, 105, 106, 107, 108] rfl <| ARH.skip rfl <| ARH.skip rfl ?_
         refine ARH.dry rfl (fun _ => aop_pick rfl rfl rfl) <| ARH.keep [111] rfl <| ARH.dry rfl (fun _ => aop_move (.inr rfl) rfl) <| ARH.nil <| hK14 _ (AWP.weak (Weak.kt [6] rfl) ?_)
         refine awp_ret ?_
         obtain rfl := Option.some.inj h
         refine ⟨.inr rfl, bl false, rfl, ?_⟩
         exact Weak.e ⟨.k, trivial⟩
       ·rw [hb105]
        replace h := Sh.if_f h hb105
        refine ARH.dry (r := G.graph_Graph.av r62.1) rfl (fun _ => aop_load_pp rfl rfl sz24 rfl) <| ARH.dry rfl (fun _ => aop_move (.inl rfl) rfl) <| ARH.keep [1, 2, 8, 11, 87, 91, 92, 93] rfl <| ARH.dry rfl (fun _ => aop_move (.inl rfl) rfl) ?_
        obtain ⟨r108, hr108, h⟩ := Sh.bind_some' h
        refine ARH.dry (r := bl r108) rfl (fun _ => aop_call1 rfl rfl (by simp) (graph_Has_ok hT hr108)) <| ARH.dry rfl (fun _ => aop_move (.inl rfl) rfl) <| ARH.keep [1, 2, 8, 11, 87, 91, 96] rfl ?_
        rcases Bool.eq_false_or_eq_true (r108) with hb109 | hb109
        ·rw [hb109]
         replace h := Sh.if_t h hb109
         refine ARH.dry (r := G.graph_Graph.av r62.1) rfl (fun _ => aop_load_pp rfl rfl sz24 rfl) <| ARH.dry rfl (fun _ => aop_move (.inl rfl) rfl) <| ARH.dry rfl (fun _ => aop_move (.inl rfl) rfl) <| ARH.keep [1, 8, 11, 87, 91, 96, 97, 98, 99] rfl ?_
         obtain ⟨r110, hr110, h⟩ := Sh.bind_some' h
         refine ARH.dry (r := bl r110) rfl (fun _ => aop_call1 rfl rfl (by simp) (graph_Has_ok hT hr110)) <| ARH.dry rfl (fun _ => aop_pick rfl rfl rfl) <| ARH.dry rfl (fun _ => aop_pick rfl rfl rfl) <| ARH.keep [1, 8, 11, 87, 102] rfl <| ARH.dry (r := bl ((decide (x101 = x103)) == r110)) rfl (fun _ => aop_eqb rfl rfl rfl Tryd.underlying4) <| ARH.dry rfl (fun _ => aop_move (.inl rfl) rfl) ?_
         rcases Bool.eq_false_or_eq_true ((decide (x101 = x103)) == r110) with hb111 | hb111
         ·rw [hb111]
          replace h := Sh.if_t h hb111
          refine ARH.dry rfl (fun _ => aop_move (.inl rfl) rfl) <| ARH.keep [1, 8, 104, 105] rfl <| ARH.dry (r := G.graph_Graph.av r62.1) rfl (fun _ => aop_load_pp rfl rfl sz24 rfl) <| ARH.dry rfl (fun _ => aop_move (.inl rfl) rfl) <| ARH.dry rfl (fun _ => aop_move (.inl rfl) rfl) <| ARH.keep [104, 105, 106, 107, 108] rfl ?_
          obtain ⟨r112, hr112, h⟩ := Sh.bind_some' h
          refine ARH.dry (r := bl r112) rfl (fun _ => aop_call1 rfl rfl (by simp) (graph_Has_ok hT hr112)) <| ARH.dry (r := bl (in86 == r112)) rfl (fun _ => aop_eqb rfl rfl rfl Tryd.underlying4) <| ARH.dry rfl (fun _ => aop_pick rfl rfl rfl) <| ARH.keep [111] rfl <| ARH.dry rfl (fun _ => aop_move (.inr rfl) rfl) <| ARH.nil <| hK14 _ (AWP.weak (Weak.kt [6] rfl) ?_)
          refine awp_ret ?_
          obtain rfl := Option.some.inj h
          refine ⟨.inr rfl, bl (in86 == r112), rfl, ?_⟩
          exact Weak.e ⟨.k, trivial⟩
         ·rw [hb111]
          replace h := Sh.if_f h hb111
          refine ARH.skip rfl <| ARH.keep [1, 8, 104, 105] rfl <| ARH.skip rfl <| ARH.skip rfl <| ARH.skip rfl <| ARH.keep [104, 105, 106, 107, 108] rfl <| ARH.skip rfl <| ARH.skip rfl ?_
          refine ARH.dry rfl (fun _ => aop_pick rfl rfl rfl) <| ARH.keep [111] rfl <| ARH.dry rfl (fun _ => aop_move (.inr rfl) rfl) <| ARH.nil <| hK14 _ (AWP.weak (Weak.kt [6] rfl) ?_)
          refine awp_ret ?_
          obtain rfl := Option.some.inj h
          refine ⟨.inr rfl, bl false, rfl, ?_⟩
          exact Weak.e ⟨.k, trivial⟩
        ·rw [hb109]
         replace h := Sh.if_f h hb109
         refine ARH.skip rfl <| ARH.skip rfl <| ARH.skip rfl <| ARH.keep [1, 8, 11, 87, 91, 96, 97, 98, 99] rfl <| ARH.skip rfl <| ARH.dry rfl (fun _ => aop_pick rfl rfl rfl) <| ARH.dry rfl (fun _ => aop_pick rfl rfl rfl) <| ARH.keep [1, 8, 11, 87, 102] rfl ?_
         refine ARH.dry (r := bl ((decide (x101 = x103)) == false)) rfl (fun _ => aop_eqb rfl rfl rfl Tryd.underlying4) <| ARH.dry rfl (fun _ => aop_move (.inl rfl) rfl) ?_
         rcases Bool.eq_false_or_eq_true ((decide (x101 = x103)) == false) with hb113 | hb113
         ·rw [hb113]
          replace h := Sh.if_t h hb113
          refine ARH.dry rfl (fun _ => aop_move (.inl rfl) rfl) <| ARH.keep [1, 8, 104, 105] rfl <| ARH.dry (r := G.graph_Graph.av r62.1) rfl (fun _ => aop_load_pp rfl rfl sz24 rfl) <| ARH.dry rfl (fun _ => aop_move (.inl rfl) rfl) <| ARH.dry rfl (fun _ => aop_move (.inl rfl) rfl) <| ARH.keep [104, 105, 106, 107, 108] rfl ?_
          obtain ⟨r114, hr114, h⟩ := Sh.bind_some' h
          refine ARH.dry (r := bl r114) rfl (fun _ => aop_call1 rfl rfl (by simp) (graph_Has_ok hT hr114)) <| ARH.dry (r := bl (in86 == r114)) rfl (fun _ => aop_eqb rfl rfl rfl Tryd.underlying4) <| ARH.dry rfl (fun _ => aop_pick rfl rfl rfl) <| ARH.keep [111] rfl <| ARH.dry rfl (fun _ => aop_move (.inr rfl) rfl) <| ARH.nil <| hK14 _ (AWP.weak (Weak.kt [6] rfl) ?_)
          refine awp_ret ?_
          obtain rfl := Option.some.inj h
          refine ⟨.inr rfl, bl (in86 == r114), rfl, ?_⟩
          exact Weak.e ⟨.k, trivial⟩
         ·rw [hb113]
          replace h := Sh.if_f h hb113
          refine ARH.skip rfl <| ARH.keep [1, 8, 104, 105] rfl <| ARH.skip rfl <| ARH.skip rfl <| ARH.skip rfl <| ARH.keep [104, 105, 106, 107, 108] rfl <| ARH.skip rfl <| ARH.skip rfl ?_
          refine ARH.dry rfl (fun _ => aop_pick rfl rfl rfl) <| ARH.keep [111] rfl <| ARH.dry rfl (fun _ => aop_move (.inr rfl) rfl) <| ARH.nil <| hK14 _ (AWP.weak (Weak.kt [6] rfl) ?_)
          refine awp_ret ?_
          obtain rfl := Option.some.inj h
          refine ⟨.inr rfl, bl false, rfl, ?_⟩
          exact Weak.e ⟨.k, trivial⟩
      ·intro K15 hK15
       refine awp_seqK fun K16 hK16 => awp_reg rfl <| AR.op rfl (aop_move (.inr rfl) rfl) <| AR.nil <| hK16 _ ?_
       refine awp_block <| awp_iter (fun (p : Bool × Int) => G.inquestlaw14_SccReach_b1 a_1 b_2 r62 r64 r71 p.1 p.2) (fun (p : Bool × Int) => (⟨[(1, i64 a_1), (2, i64 b_2), (8, .pp [i64 r62.1.N, .sl (List.map u64 r62.1.Rows)] 0), (10, .sl (List.map i64 r64)), (11, bl p.1), (12, .sl (List.map i64 r71)), (13, i64 p.2)], .empty⟩ : St)) h (Weak.kt [1, 2, 8, 10, 11, 12, 13] rfl) ?_
       ·skip
        rintro ⟨in123, i124⟩ o1 h hx1
        replace h : G.inquestlaw14_SccReach_b1 a_1 b_2 r62 r64 r71 in123 i124 = some o1 := h
        unfold G.inquestlaw14_SccReach_b1 at h
        refine awp_seqK fun K17 hK17 => awp_seqK fun K18 hK18 => awp_reg rfl <| AR.op rfl (aop_move (.inl rfl) rfl) <| AR.op rfl (aop_move (.inl rfl) rfl) <| AR.op rfl (t_len_sl i64 r71 rfl rfl el25) <| AR.keep [1, 2, 8, 10, 11, 12, 13, 64, 66] rfl <| AR.op rfl (aop_lss rfl rfl rfl) ?_
        refine AR.nil <| hK18 _ (AWP.weak (Weak.kt [1, 2, 8, 10, 11, 12, 13, 67] rfl) ?_)
        refine awp_cond rfl (fun hb125 => ?_) (fun hb125 => ?_)
        ·replace h := Sh.if_t h hb125
         refine awp_skip <| hK17 _ (AWP.weak (Weak.kt [1, 2, 8, 10, 11, 12, 13] rfl) ?_)
         refine awp_seqJ (fun (p : Bool) => (⟨[(1, i64 a_1), (2, i64 b_2), (8, .pp [i64 r62.1.N, .sl (List.map u64 r62.1.Rows)] 0), (10, .sl (List.map i64 r64)), (12, .sl (List.map i64 r71)), (13, i64 i124), (11, bl p)], .empty⟩ : St)) (fun (p : Bool) => G.inquestlaw14_SccReach_j4 i124 p = some o1) ?_ ?_
         ·rintro in129 h
          replace h : G.inquestlaw14_SccReach_j4 i124 in129 = some o1 := h
          unfold G.inquestlaw14_SccReach_j4 at h
          refine awp_reg rfl <| AR.op rfl (aop_move (.inl rfl) rfl) <| AR.op rfl (aop_add rfl rfl rfl rfl) <| AR.op rfl (aop_move (.inr rfl) rfl) <| AR.nil ?_
          replace h := Sh.next_eq h
          exact ⟨_, h, Weak.kt [1, 2, 8, 10, 11, 12, 13] rfl⟩
         ·intro K19 hK19
          refine awp_block <| awp_reg rfl <| AR.op rfl (aop_move (.inl rfl) rfl) <| AR.op rfl (aop_move (.inl rfl) rfl) ?_
          rcases Bool.eq_false_or_eq_true (in123) with hb130 | hb130
          ·rw [hb130]
           replace h := Sh.if_t h hb130
           refine AR.skip rfl <| AR.keep [1, 2, 8, 10, 12, 13, 71, 72] rfl <| AR.skip rfl <| AR.skip rfl <| AR.skip rfl <| AR.keep [1, 2, 8, 10, 12, 13, 71, 72, 73, 74, 75] rfl <| AR.skip rfl <| AR.skip rfl ?_
           refine AR.op rfl (aop_pick rfl rfl rfl) <| AR.keep [1, 2, 8, 10, 12, 13, 72, 73, 74, 75, 76, 77, 78] rfl <| AR.op rfl (aop_move (.inr rfl) rfl) <| AR.nil ?_
           exact hK19 true _ h (Weak.kt [1, 2, 8, 10, 12, 13, 11] rfl)
          ·rw [hb130]
           replace h := Sh.if_f h hb130
           refine AR.op rfl (aop_move (.inl rfl) rfl) <| AR.keep [1, 2, 8, 10, 12, 13, 71, 72] rfl <| AR.op rfl (aop_move (.inl rfl) rfl) ?_
           obtain ⟨x131, hx131, h⟩ := Sh.bind_some' h
           obtain ⟨k132, hi132, hl132⟩ := Sh.idx_some hx131
           refine AR.op rfl (t_index_sl i64 r71 hi132 hl132 rfl rfl rfl el25 rfl) <| AR.op (r := i64 x131) rfl (aop_load_pp rfl rfl sz3 rfl) <| AR.keep [1, 2, 8, 10, 12, 13, 71, 72, 73, 74, 75] rfl <| AR.op rfl (aop_move (.inl rfl) rfl) <| AR.op (r := bl (decide (x131 = a_1))) rfl (aop_eql rfl rfl rfl) <| AR.op rfl (aop_pick rfl rfl rfl) <| AR.keep [1, 2, 8, 10, 12, 13, 72, 73, 74, 75, 76, 77, 78] rfl <| AR.op rfl (aop_move (.inr rfl) rfl) ?_
           refine AR.nil ?_
           exact hK19 (decide (x131 = a_1)) _ h (Weak.kt [1, 2, 8, 10, 12, 13, 11] rfl)
        ·replace h := Sh.if_f h hb125
         refine awp_exit ?_
         replace h := Sh.exit_eq h hx1
         exact hK15 in123 _ h (Weak.kt [1, 2, 8, 10, 11] rfl)
    ·intro K20 hK20
     refine awp_reg rfl <| AR.op rfl (aop_move (.inl rfl) rfl) <| AR.op (r := bl (decide (r62.2 ≠ 0))) rfl (aop_neq rfl rfl rfl) <| AR.op rfl (aop_move (.inl rfl) rfl) <| AR.keep [1, 2, 3, 8, 10, 55] rfl ?_
     rcases Bool.eq_false_or_eq_true (decide (r62.2 ≠ 0)) with hb133 | hb133
     ·rw [hb133]
      replace h := Sh.if_t h hb133
      refine AR.skip rfl <| AR.skip rfl <| AR.skip rfl <| AR.keep [1, 2, 3, 8, 10, 55, 57, 58] rfl <| AR.skip rfl <| AR.skip rfl <| AR.op rfl (aop_pick rfl rfl rfl) <| AR.nil ?_
      exact hK20 true _ h (Weak.kt [1, 2, 3, 8, 10, 61] rfl)
     ·rw [hb133]
      replace h := Sh.if_f h hb133
      refine AR.op rfl (aop_move (.inl rfl) rfl) <| AR.op rfl (t_len_sl i64 r64 rfl rfl el25) <| AR.op rfl (aop_field_pp rfl rfl fd24_0 (by decide)) <| AR.keep [1, 2, 3, 8, 10, 55, 57, 58] rfl <| AR.op (r := i64 g_0.N) rfl (aop_load_pp rfl rfl sz3 rfl) <| AR.op (r := bl (decide ((Sh.len r64) ≠ g_0.N))) rfl (aop_neq rfl rfl rfl) <| AR.op rfl (aop_pick rfl rfl rfl) <| AR.nil ?_
      exact hK20 (decide ((Sh.len r64) ≠ g_0.N)) _ h (Weak.kt [1, 2, 3, 8, 10, 61] rfl)
  ·intro K21 hK21
   refine awp_reg rfl <| AR.op rfl (aop_field_pp rfl rfl fd24_1 (by decide)) <| AR.op (r := .sl (List.map u64 g_0.Rows)) rfl (aop_load_pp rfl rfl sz22 rfl) <| AR.op rfl (t_len_sl u64 g_0.Rows rfl rfl el22) <| AR.keep [1, 2, 3, 19] rfl <| AR.op rfl (aop_gtr rfl rfl rfl) <| AR.op rfl (aop_move (.inl rfl) rfl) ?_
   rcases Bool.eq_false_or_eq_true (decide ((70 : Int) < (Sh.len g_0.Rows))) with hb134 | hb134
   ·rw [hb134]
    replace h := Sh.if_t h hb134
    refine AR.skip rfl <| AR.keep [1, 2, 3, 21, 22] rfl <| AR.skip rfl <| AR.skip rfl <| AR.op rfl (aop_pick rfl rfl rfl) <| AR.keep [1, 2, 3, 25] rfl <| AR.op rfl (aop_move (.inl rfl) rfl) <| AR.skip rfl ?_
    refine AR.skip rfl <| AR.keep [1, 2, 3, 26, 28] rfl <| AR.op rfl (aop_pick rfl rfl rfl) <| AR.op rfl (aop_move (.inl rfl) rfl) <| AR.skip rfl <| AR.keep [1, 2, 3, 30, 31] rfl <| AR.skip rfl <| AR.skip rfl ?_
    refine AR.skip rfl <| AR.keep [1, 2, 3, 30, 34] rfl <| AR.op rfl (aop_pick rfl rfl rfl) <| AR.op rfl (aop_move (.inl rfl) rfl) <| AR.skip rfl <| AR.keep [1, 2, 3, 36, 37] rfl <| AR.skip rfl <| AR.op rfl (aop_pick rfl rfl rfl) ?_
    refine AR.op rfl (aop_move (.inl rfl) rfl) <| AR.keep [1, 2, 3, 40] rfl <| AR.skip rfl <| AR.skip rfl <| AR.skip rfl <| AR.keep [1, 2, 3, 40, 41, 43] rfl <| AR.skip rfl <| AR.op rfl (aop_pick rfl rfl rfl) ?_
    refine AR.nil ?_
    exact hK21 true _ h (Weak.kt [1, 2, 3, 45] rfl)
   ·rw [hb134]
    replace h := Sh.if_f h hb134
    refine AR.op (r := G.graph_Graph.av g_0) rfl (aop_load_pp rfl rfl sz24 rfl) <| AR.keep [1, 2, 3, 21, 22] rfl ?_
    obtain ⟨r135, hr135, h⟩ := Sh.bind_some' h
    refine AR.op (r := bl r135) rfl (aop_call1 rfl rfl (by simp) (graph_Right_ok hT hr135)) <| AR.op (r := bl (!r135)) rfl (aop_not rfl rfl) <| AR.op rfl (aop_pick rfl rfl rfl) <| AR.keep [1, 2, 3, 25] rfl <| AR.op rfl (aop_move (.inl rfl) rfl) ?_
    rcases Bool.eq_false_or_eq_true (!r135) with hb136 | hb136
    ·rw [hb136]
     replace h := Sh.if_t h hb136
     refine AR.skip rfl <| AR.skip rfl <| AR.keep [1, 2, 3, 26, 28] rfl <| AR.op rfl (aop_pick rfl rfl rfl) <| AR.op rfl (aop_move (.inl rfl) rfl) <| AR.skip rfl <| AR.keep [1, 2, 3, 30, 31] rfl <| AR.skip rfl ?_
     refine AR.skip rfl <| AR.skip rfl <| AR.keep [1, 2, 3, 30, 34] rfl <| AR.op rfl (aop_pick rfl rfl rfl) <| AR.op rfl (aop_move (.inl rfl) rfl) <| AR.skip rfl <| AR.keep [1, 2, 3, 36, 37] rfl <| AR.skip rfl ?_
     refine AR.op rfl (aop_pick rfl rfl rfl) <| AR.op rfl (aop_move (.inl rfl) rfl) <| AR.keep [1, 2, 3, 40] rfl <| AR.skip rfl <| AR.skip rfl <| AR.skip rfl <| AR.keep [1, 2, 3, 40, 41, 43] rfl <| AR.skip rfl ?_
     refine AR.op rfl (aop_pick rfl rfl rfl) <| AR.nil ?_
     exact hK21 true _ h (Weak.kt [1, 2, 3, 45] rfl)
    ·rw [hb136]
     replace h := Sh.if_f h hb136
     refine AR.op rfl (aop_move (.inl rfl) rfl) <| AR.op rfl (aop_lss rfl rfl rfl) <| AR.keep [1, 2, 3, 26, 28] rfl <| AR.op rfl (aop_pick rfl rfl rfl) <| AR.op rfl (aop_move (.inl rfl) rfl) ?_
     rcases Bool.eq_false_or_eq_true (decide (a_1 < 0)) with hb137 | hb137
     ·rw [hb137]
      replace h := Sh.if_t h hb137
      refine AR.skip rfl <| AR.keep [1, 2, 3, 30, 31] rfl <| AR.skip rfl <| AR.skip rfl <| AR.skip rfl <| AR.keep [1, 2, 3, 30, 34] rfl <| AR.op rfl (aop_pick rfl rfl rfl) <| AR.op rfl (aop_move (.inl rfl) rfl) ?_
      refine AR.skip rfl <| AR.keep [1, 2, 3, 36, 37] rfl <| AR.skip rfl <| AR.op rfl (aop_pick rfl rfl rfl) <| AR.op rfl (aop_move (.inl rfl) rfl) <| AR.keep [1, 2, 3, 40] rfl <| AR.skip rfl <| AR.skip rfl ?_
      refine AR.skip rfl <| AR.keep [1, 2, 3, 40, 41, 43] rfl <| AR.skip rfl <| AR.op rfl (aop_pick rfl rfl rfl) <| AR.nil ?_
      exact hK21 true _ h (Weak.kt [1, 2, 3, 45] rfl)
     ·rw [hb137]
      replace h := Sh.if_f h hb137
      refine AR.op rfl (aop_move (.inl rfl) rfl) <| AR.keep [1, 2, 3, 30, 31] rfl <| AR.op rfl (aop_field_pp rfl rfl fd24_0 (by decide)) <| AR.op (r := i64 g_0.N) rfl (aop_load_pp rfl rfl sz3 rfl) <| AR.op rfl (aop_geq rfl rfl rfl) <| AR.keep [1, 2, 3, 30, 34] rfl <| AR.op rfl (aop_pick rfl rfl rfl) <| AR.op rfl (aop_move (.inl rfl) rfl) ?_
      rcases Bool.eq_false_or_eq_true (decide (g_0.N ≤ a_1)) with hb138 | hb138
      ·rw [hb138]
       replace h := Sh.if_t h hb138
       refine AR.skip rfl <| AR.keep [1, 2, 3, 36, 37] rfl <| AR.skip rfl <| AR.op rfl (aop_pick rfl rfl rfl) <| AR.op rfl (aop_move (.inl rfl) rfl) <| AR.keep [1, 2, 3, 40] rfl <| AR.skip rfl <| AR.skip rfl ?_
       refine AR.skip rfl <| AR.keep [1, 2, 3, 40, 41, 43] rfl <| AR.skip rfl <| AR.op rfl (aop_pick rfl rfl rfl) <| AR.nil ?_
       exact hK21 true _ h (Weak.kt [1, 2, 3, 45] rfl)
      ·rw [hb138]
       replace h := Sh.if_f h hb138
       refine AR.op rfl (aop_move (.inl rfl) rfl) <| AR.keep [1, 2, 3, 36, 37] rfl <| AR.op rfl (aop_lss rfl rfl rfl) <| AR.op rfl (aop_pick rfl rfl rfl) <| AR.op rfl (aop_move (.inl rfl) rfl) <| AR.keep [1, 2, 3, 40] rfl ?_
       rcases Bool.eq_false_or_eq_true (decide (b_2 < 0)) with hb139 | hb139
       ·rw [hb139]
        replace h := Sh.if_t h hb139
        refine AR.skip rfl <| AR.skip rfl <| AR.skip rfl <| AR.keep [1, 2, 3, 40, 41, 43] rfl <| AR.skip rfl <| AR.op rfl (aop_pick rfl rfl rfl) <| AR.nil ?_
        exact hK21 true _ h (Weak.kt [1, 2, 3, 45] rfl)
       ·rw [hb139]
        replace h := Sh.if_f h hb139
        refine AR.op rfl (aop_move (.inl rfl) rfl) <| AR.op rfl (aop_field_pp rfl rfl fd24_0 (by decide)) <| AR.op (r := i64 g_0.N) rfl (aop_load_pp rfl rfl sz3 rfl) <| AR.keep [1, 2, 3, 40, 41, 43] rfl <| AR.op rfl (aop_geq rfl rfl rfl) <| AR.op rfl (aop_pick rfl rfl rfl) <| AR.nil ?_
        exact hK21 (decide (g_0.N ≤ b_2)) _ h (Weak.kt [1, 2, 3, 45] rfl)
theorem inquestlaw14_SccReach_ok {W0 : World} (hT : Tab W0) {g_0 : G.graph_Graph} {a_1 : Int} {b_2 : Int} {r : Bool} (h : G.inquestlaw14_SccReach g_0 a_1 b_2 = some r) : Fun1 Tryd.prog W0 8 [G.graph_Graph.av g_0, i64 a_1, i64 b_2] (bl r) := Fun1.two (inquestlaw14_SccReach_ok0 hT h) (by simp)

end Wk
