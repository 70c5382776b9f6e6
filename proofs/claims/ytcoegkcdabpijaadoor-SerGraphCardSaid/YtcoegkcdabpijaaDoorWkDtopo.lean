/- That the functions of a package do what their plain functions say. -/
import Derived.Test.YtcoegkcdabpijaaDoorSh
import Derived.Test.YtcoegkcdabpijaaDoorWkDFacts
import Derived.Test.YtcoegkcdabpijaaDoorWkDbits
import Derived.Test.YtcoegkcdabpijaaDoorWkDgraph
open Go Go.Av Go.Proofs
set_option linter.unusedVariables false
set_option maxHeartbeats 8000000
set_option maxRecDepth 20000
namespace Wk
theorem topo_Is_ok0 {W0 : World} (hT : Tab W0) {g_0 : G.graph_Graph} {l_1 : List Int} {r : Bool} (h : G.topo_Is g_0 l_1 = some r) : Fun2 Tryd.prog W0 18 [G.graph_Graph.av g_0, .sl (List.map i64 l_1)] (bl r) .empty := by
 refine fun2_of_awp Tryd.func18 rfl (by kernel_rfl) Tryd.ntmps18 (by simp) ?_
 unfold G.topo_Is at h
 show AWP _ _ _ _ ⟨[(0, G.graph_Graph.av g_0), (1, .sl (List.map i64 l_1))], .empty⟩ _
 refine awp_seqK fun K1 hK1 => awp_reg rfl <| AR.op (r := .ref 0 0 0) rfl (aop_box 2 [G.graph_Graph.av g_0] rfl rfl rfl (.inl ⟨rfl, rfl⟩)) <| AR.op rfl (aop_move (.inr rfl) rfl) <| AR.nil <| hK1 _ (AWP.weak (Weak.e (fr' := [(1, .sl (List.map i64 l_1)), (2, .pp [i64 g_0.N, .sl (List.map u64 g_0.Rows)] 0)]) (H' := .empty) ⟨⟨.sl (List.map i64 l_1), rfl, .sm⟩, ⟨_, rfl, .frzA rfl rfl rfl rfl (by simp)⟩, trivial⟩) ?_)
 refine awp_seqK fun K2 hK2 => awp_seqJ (fun (p : Bool) => (⟨[(1, .sl (List.map i64 l_1)), (2, .pp [i64 g_0.N, .sl (List.map u64 g_0.Rows)] 0), (17, bl p)], .empty⟩ : St)) (fun (p : Bool) => G.topo_Is_j1 g_0 l_1 p = some r) ?_ ?_
 ·rintro v40 h
  replace h : G.topo_Is_j1 g_0 l_1 v40 = some r := h
  unfold G.topo_Is_j1 at h
  refine awp_cond rfl (fun hb41 => ?_) (fun hb41 => ?_)
  ·replace h := Sh.if_t h hb41
   refine awp_seqK fun K3 hK3 => awp_reg rfl <| AR.op rfl (aop_move (.inr rfl) rfl) <| AR.nil <| hK3 _ (AWP.weak (Weak.kt [4] rfl) ?_)
   refine awp_ret ?_
   obtain rfl := Option.some.inj h
   refine ⟨.inr rfl, bl false, rfl, ?_⟩
   exact Weak.e ⟨.k, trivial⟩
  ·replace h := Sh.if_f h hb41
   refine awp_skip <| hK2 _ (AWP.weak (Weak.kt [1, 2] rfl) ?_)
   refine awp_seqK fun K4 hK4 => awp_reg rfl <| AR.op rfl (aop_move (.inr rfl) rfl) <| AR.nil <| hK4 _ ?_
   refine awp_seqJ (fun (p : Unit) => (⟨[], .empty⟩ : St)) (fun (p : Unit) => G.topo_Is_j2 = some r) ?_ ?_
   ·rintro ⟨⟩ h
    replace h : G.topo_Is_j2 = some r := h
    unfold G.topo_Is_j2 at h
    refine awp_seqK fun K5 hK5 => awp_reg rfl <| AR.op rfl (aop_move (.inr rfl) rfl) <| AR.nil <| hK5 _ ?_
    refine awp_ret ?_
    obtain rfl := Option.some.inj h
    refine ⟨.inr rfl, bl true, rfl, ?_⟩
    exact Weak.e ⟨.k, trivial⟩
   ·intro K6 hK6
    refine awp_seqK fun K7 hK7 => awp_reg rfl <| AR.op rfl (aop_move (.inl rfl) rfl) <| AR.op rfl (t_len_sl i64 l_1 rfl rfl el26) <| AR.op rfl (aop_move (.inl rfl) rfl) <| AR.nil <| hK7 _ (AWP.weak (Weak.kt [2, 5, 18, 19, 20] rfl) ?_)
    refine awp_block <| awp_iter (fun (p : (BitVec 64) × Int) => G.topo_Is_b1 g_0 l_1 p.1 p.2) (fun (p : (BitVec 64) × Int) => (⟨[(2, .pp [i64 g_0.N, .sl (List.map u64 g_0.Rows)] 0), (5, u64 p.1), (18, .sl (List.map i64 l_1)), (19, i64 (Sh.len l_1)), (20, i64 p.2)], .empty⟩ : St)) h (Weak.kt [2, 5, 18, 19, 20] rfl) ?_
    ·skip
     rintro ⟨seen93, v94⟩ o1 h hx1
     replace h : G.topo_Is_b1 g_0 l_1 seen93 v94 = some o1 := h
     unfold G.topo_Is_b1 at h
     refine awp_seqK fun K8 hK8 => awp_reg rfl <| AR.op rfl (aop_lss rfl rfl rfl) <| AR.nil <| hK8 _ ?_
     refine awp_seqK fun K9 hK9 => awp_cond rfl (fun hb95 => ?_) (fun hb95 => ?_)
     ·replace h := Sh.if_t h hb95
      refine awp_skip <| hK9 _ (AWP.weak (Weak.kt [2, 5, 18, 19, 20] rfl) ?_)
      refine awp_seqK fun K10 hK10 => awp_block <| awp_seqK fun K11 hK11 => awp_reg rfl ?_
      obtain ⟨x107, hx107, h⟩ := Sh.bind_some' h
      obtain ⟨k108, hi108, hl108⟩ := Sh.idx_some hx107
      refine AR.op rfl (t_index_sl i64 l_1 hi108 hl108 rfl rfl rfl el26 rfl) <| AR.op (r := i64 x107) rfl (aop_load_pp rfl rfl sz3 rfl) <| AR.op rfl (aop_move (.inr rfl) rfl) <| AR.nil <| hK11 _ (AWP.weak (Weak.kt [2, 5, 18, 19, 20, 7] rfl) ?_)
      refine awp_seqK fun K12 hK12 => awp_seqJ (fun (p : Bool) => (⟨[(2, .pp [i64 g_0.N, .sl (List.map u64 g_0.Rows)] 0), (5, u64 seen93), (18, .sl (List.map i64 l_1)), (19, i64 (Sh.len l_1)), (20, i64 v94), (7, i64 x107), (36, bl p)], .empty⟩ : St)) (fun (p : Bool) => G.topo_Is_j3 g_0 seen93 v94 x107 p = some o1) ?_ ?_
      ·rintro v116 h
       replace h : G.topo_Is_j3 g_0 seen93 v94 x107 v116 = some o1 := h
       unfold G.topo_Is_j3 at h
       refine awp_cond rfl (fun hb117 => ?_) (fun hb117 => ?_)
       ·replace h := Sh.if_t h hb117
        refine awp_seqK fun K13 hK13 => awp_reg rfl <| AR.op rfl (aop_move (.inr rfl) rfl) <| AR.nil <| hK13 _ (AWP.weak (Weak.kt [4] rfl) ?_)
        refine awp_ret ?_
        replace h := Sh.exit_eq h hx1
        obtain rfl := Option.some.inj h
        refine ⟨.inr rfl, bl false, rfl, ?_⟩
        exact Weak.e ⟨.k, trivial⟩
       ·replace h := Sh.if_f h hb117
        refine awp_skip <| hK12 _ (AWP.weak (Weak.kt [2, 5, 18, 19, 20, 7] rfl) ?_)
        refine awp_seqK fun K14 hK14 => awp_reg rfl <| AR.op rfl (aop_move (.inl rfl) rfl) <| AR.op rfl (aop_move (.inl rfl) rfl) ?_
        obtain ⟨r119, hr119, h⟩ := Sh.bind_some' h
        refine AR.op (r := u64 r119) rfl (aop_call1 rfl rfl (by simp) (bits_With_ok hT hr119)) <| AR.keep [2, 18, 19, 20, 7, 39] rfl <| AR.op rfl (aop_move (.inr rfl) rfl) <| AR.nil <| hK14 _ (AWP.weak (Weak.kt [2, 18, 19, 20, 7, 5] rfl) ?_)
        refine awp_seqK fun K15 hK15 => awp_reg rfl <| AR.op rfl (aop_field_pp rfl rfl fd34_1 (by decide)) <| AR.op (r := .sl (List.map u64 g_0.Rows)) rfl (aop_load_pp rfl rfl sz32 rfl) <| AR.op rfl (aop_move (.inl rfl) rfl) <| AR.keep [2, 18, 19, 20, 5, 41, 42] rfl ?_
        obtain ⟨x122, hx122, h⟩ := Sh.bind_some' h
        obtain ⟨k123, hi123, hl123⟩ := Sh.idx_some hx122
        refine AR.op rfl (t_index_sl u64 g_0.Rows hi123 hl123 rfl rfl rfl el32 rfl) <| AR.op (r := u64 x122) rfl (aop_load_pp rfl rfl sz65 rfl) <| AR.op rfl (aop_move (.inl rfl) rfl) <| AR.keep [2, 18, 19, 20, 5, 44, 45] rfl <| AR.op (r := u64 (x122 &&& r119)) rfl (aop_and (a := x122) (b := r119) rfl rfl rfl) <| AR.op (r := bl (decide ((x122 &&& r119) ≠ 0#64))) rfl (aop_neq64 (a := x122 &&& r119) (b := 0#64) rfl rfl rfl) <| AR.nil <| hK15 _ (AWP.weak (Weak.kt [2, 18, 19, 20, 5, 47] rfl) ?_)
        refine awp_cond rfl (fun hb124 => ?_) (fun hb124 => ?_)
        ·replace h := Sh.if_t h hb124
         refine awp_seqK fun K16 hK16 => awp_reg rfl <| AR.op rfl (aop_move (.inr rfl) rfl) <| AR.nil <| hK16 _ (AWP.weak (Weak.kt [4] rfl) ?_)
         refine awp_ret ?_
         replace h := Sh.exit_eq h hx1
         obtain rfl := Option.some.inj h
         refine ⟨.inr rfl, bl false, rfl, ?_⟩
         exact Weak.e ⟨.k, trivial⟩
        ·replace h := Sh.if_f h hb124
         refine awp_skip <| hK10 _ (AWP.weak (Weak.kt [2, 18, 19, 20, 5] rfl) ?_)
         refine awp_reg rfl <| AR.op rfl (aop_add rfl rfl rfl rfl) <| AR.op rfl (aop_move (.inl rfl) rfl) <| AR.nil ?_
         replace h := Sh.next_eq h
         exact ⟨_, h, Weak.kt [2, 5, 18, 19, 20] rfl⟩
      ·intro K17 hK17
       refine awp_reg rfl <| AR.op rfl (aop_move (.inl rfl) rfl) <| AR.op rfl (aop_lss rfl rfl rfl) <| AR.op rfl (aop_move (.inl rfl) rfl) <| AR.keep [2, 5, 18, 19, 20, 7, 26] rfl ?_
       rcases Bool.eq_false_or_eq_true (decide (x107 < 0)) with hb125 | hb125
       ·rw [hb125]
        replace h := Sh.if_t h hb125
        refine AR.skip rfl <| AR.skip rfl <| AR.skip rfl <| AR.keep [2, 5, 18, 19, 20, 7, 26, 27, 28, 29] rfl <| AR.skip rfl <| AR.op rfl (aop_pick rfl rfl rfl) <| AR.op rfl (aop_move (.inl rfl) rfl) <| AR.keep [2, 5, 18, 19, 20, 7, 27, 28, 29, 30, 32] rfl ?_
        refine AR.skip rfl <| AR.skip rfl <| AR.skip rfl <| AR.keep [2, 5, 18, 19, 20, 7, 27, 28, 29, 30, 32, 33, 34, 35] rfl <| AR.op rfl (aop_pick rfl rfl rfl) <| AR.nil ?_
        exact hK17 true _ h (Weak.kt [2, 5, 18, 19, 20, 7, 36] rfl)
       ·rw [hb125]
        replace h := Sh.if_f h hb125
        refine AR.op rfl (aop_move (.inl rfl) rfl) <| AR.op rfl (aop_field_pp rfl rfl fd34_0 (by decide)) <| AR.op (r := i64 g_0.N) rfl (aop_load_pp rfl rfl sz3 rfl) <| AR.keep [2, 5, 18, 19, 20, 7, 26, 27, 28, 29] rfl <| AR.op rfl (aop_geq rfl rfl rfl) <| AR.op rfl (aop_pick rfl rfl rfl) <| AR.op rfl (aop_move (.inl rfl) rfl) <| AR.keep [2, 5, 18, 19, 20, 7, 27, 28, 29, 30, 32] rfl ?_
        rcases Bool.eq_false_or_eq_true (decide (g_0.N ≤ x107)) with hb126 | hb126
        ·rw [hb126]
         replace h := Sh.if_t h hb126
         refine AR.skip rfl <| AR.skip rfl <| AR.skip rfl <| AR.keep [2, 5, 18, 19, 20, 7, 27, 28, 29, 30, 32, 33, 34, 35] rfl <| AR.op rfl (aop_pick rfl rfl rfl) <| AR.nil ?_
         exact hK17 true _ h (Weak.kt [2, 5, 18, 19, 20, 7, 36] rfl)
        ·rw [hb126]
         replace h := Sh.if_f h hb126
         refine AR.op rfl (aop_move (.inl rfl) rfl) <| AR.op rfl (aop_move (.inl rfl) rfl) ?_
         obtain ⟨r127, hr127, h⟩ := Sh.bind_some' h
         refine AR.op (r := bl r127) rfl (aop_call1 rfl rfl (by simp) (bits_Has_ok hT hr127)) <| AR.keep [2, 5, 18, 19, 20, 7, 27, 28, 29, 30, 32, 33, 34, 35] rfl <| AR.op rfl (aop_pick rfl rfl rfl) <| AR.nil ?_
         exact hK17 r127 _ h (Weak.kt [2, 5, 18, 19, 20, 7, 36] rfl)
     ·replace h := Sh.if_f h hb95
      refine awp_exit ?_
      replace h := Sh.exit_eq h hx1
      exact hK6 () _ h (Weak.kt [] rfl)
 ·intro K18 hK18
  refine awp_reg rfl <| AR.op (r := G.graph_Graph.av g_0) rfl (aop_load_pp rfl rfl sz34 rfl) ?_
  obtain ⟨r128, hr128, h⟩ := Sh.bind_some' h
  refine AR.op (r := bl r128) rfl (aop_call1 rfl rfl (by simp) (graph_Right_ok hT hr128)) <| AR.op (r := bl (!r128)) rfl (aop_not rfl rfl) <| AR.keep [1, 2, 10] rfl <| AR.op rfl (aop_move (.inl rfl) rfl) ?_
  rcases Bool.eq_false_or_eq_true (!r128) with hb129 | hb129
  ·rw [hb129]
   replace h := Sh.if_t h hb129
   refine AR.skip rfl <| AR.skip rfl <| AR.keep [1, 2, 11, 13] rfl <| AR.skip rfl <| AR.skip rfl <| AR.skip rfl <| AR.keep [1, 2, 11, 16] rfl <| AR.op rfl (aop_pick rfl rfl rfl) ?_
   refine AR.nil ?_
   exact hK18 true _ h (Weak.kt [1, 2, 17] rfl)
  ·rw [hb129]
   replace h := Sh.if_f h hb129
   refine AR.op rfl (aop_move (.inl rfl) rfl) <| AR.op rfl (t_len_sl i64 l_1 rfl rfl el26) <| AR.keep [1, 2, 11, 13] rfl <| AR.op rfl (aop_field_pp rfl rfl fd34_0 (by decide)) <| AR.op (r := i64 g_0.N) rfl (aop_load_pp rfl rfl sz3 rfl) <| AR.op (r := bl (decide ((Sh.len l_1) ≠ g_0.N))) rfl (aop_neq rfl rfl rfl) <| AR.keep [1, 2, 11, 16] rfl <| AR.op rfl (aop_pick rfl rfl rfl) ?_
   refine AR.nil ?_
   exact hK18 (decide ((Sh.len l_1) ≠ g_0.N)) _ h (Weak.kt [1, 2, 17] rfl)
theorem topo_Is_ok {W0 : World} (hT : Tab W0) {g_0 : G.graph_Graph} {l_1 : List Int} {r : Bool} (h : G.topo_Is g_0 l_1 = some r) : Fun1 Tryd.prog W0 18 [G.graph_Graph.av g_0, .sl (List.map i64 l_1)] (bl r) := Fun1.two (topo_Is_ok0 hT h) (by simp)

end Wk
