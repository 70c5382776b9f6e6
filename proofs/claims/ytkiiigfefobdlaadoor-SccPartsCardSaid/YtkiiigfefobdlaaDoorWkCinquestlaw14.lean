/- That the functions of a package do what their plain functions say. -/
import Derived.Test.YtkiiigfefobdlaaDoorSh
import Derived.Test.YtkiiigfefobdlaaDoorWkCFacts
import Derived.Test.YtkiiigfefobdlaaDoorWkCgraph
import Derived.Test.YtkiiigfefobdlaaDoorWkCinquestref07
import Derived.Test.YtkiiigfefobdlaaDoorWkCinquestref12
import Derived.Test.YtkiiigfefobdlaaDoorWkCinquestref14
import Derived.Test.YtkiiigfefobdlaaDoorWkCreach
import Derived.Test.YtkiiigfefobdlaaDoorWkCscc
open Go Go.Av Go.Proofs
set_option linter.unusedVariables false
set_option maxHeartbeats 8000000
set_option maxRecDepth 20000
namespace Wk
theorem inquestlaw14_rows_ok0 {W0 : World} (hT : Tab W0) {a_0 : List (List Int)} {b_1 : List (List Int)} {r : Bool} (h : G.inquestlaw14_rows a_0 b_1 = some r) : Fun2 Tryd.prog W0 26 [.sl (List.map (slA i64) a_0), .sl (List.map (slA i64) b_1)] (bl r) .empty := by
 refine fun2_of_awp Tryd.func26 rfl (by kernel_rfl) Tryd.ntmps26 (by simp) ?_
 unfold G.inquestlaw14_rows at h
 show AWP _ _ _ _ ⟨[(0, .sl (List.map (slA i64) a_0)), (1, .sl (List.map (slA i64) b_1))], .empty⟩ _
 refine awp_seqK fun K1 hK1 => awp_reg rfl <| AR.op rfl (aop_move (.inr rfl) rfl) <| AR.nil <| hK1 _ (AWP.weak (Weak.kt [0, 1] rfl) ?_)
 refine awp_seqK fun K2 hK2 => awp_seqK fun K3 hK3 => awp_reg rfl <| AR.op rfl (aop_move (.inl rfl) rfl) <| AR.op rfl (t_len_sl (slA i64) a_0 rfl rfl el42) <| AR.op rfl (aop_move (.inl rfl) rfl) <| AR.keep [0, 1, 8, 9] rfl <| AR.op rfl (t_len_sl (slA i64) b_1 rfl rfl el42) ?_
 refine AR.op (r := bl (decide ((Sh.len a_0) ≠ (Sh.len b_1)))) rfl (aop_neq rfl rfl rfl) <| AR.nil <| hK3 _ (AWP.weak (Weak.kt [0, 1, 11] rfl) ?_)
 refine awp_cond rfl (fun hb18 => ?_) (fun hb18 => ?_)
 ·replace h := Sh.if_t h hb18
  refine awp_seqK fun K4 hK4 => awp_reg rfl <| AR.op rfl (aop_move (.inr rfl) rfl) <| AR.nil <| hK4 _ (AWP.weak (Weak.kt [4] rfl) ?_)
  refine awp_ret ?_
  obtain rfl := Option.some.inj h
  refine ⟨.inr rfl, bl false, rfl, ?_⟩
  exact Weak.e ⟨.k, trivial⟩
 ·replace h := Sh.if_f h hb18
  refine awp_skip <| hK2 _ (AWP.weak (Weak.kt [0, 1] rfl) ?_)
  refine awp_seqJ (fun (p : Unit) => (⟨[], .empty⟩ : St)) (fun (p : Unit) => G.inquestlaw14_rows_j1 = some r) ?_ ?_
  ·rintro ⟨⟩ h
   replace h : G.inquestlaw14_rows_j1 = some r := h
   unfold G.inquestlaw14_rows_j1 at h
   refine awp_seqK fun K5 hK5 => awp_reg rfl <| AR.op rfl (aop_move (.inr rfl) rfl) <| AR.nil <| hK5 _ ?_
   refine awp_ret ?_
   obtain rfl := Option.some.inj h
   refine ⟨.inr rfl, bl true, rfl, ?_⟩
   exact Weak.e ⟨.k, trivial⟩
  ·intro K6 hK6
   refine awp_seqK fun K7 hK7 => awp_reg rfl <| AR.op rfl (aop_move (.inr rfl) rfl) <| AR.nil <| hK7 _ ?_
   refine awp_block <| awp_iter (fun (p : Int) => G.inquestlaw14_rows_b1 a_0 b_1 p) (fun (p : Int) => (⟨[(0, .sl (List.map (slA i64) a_0)), (1, .sl (List.map (slA i64) b_1)), (5, i64 p)], .empty⟩ : St)) h (Weak.kt [0, 1, 5] rfl) ?_
   ·skip
    rintro i47 o1 h hx1
    replace h : G.inquestlaw14_rows_b1 a_0 b_1 i47 = some o1 := h
    unfold G.inquestlaw14_rows_b1 at h
    refine awp_seqK fun K8 hK8 => awp_seqK fun K9 hK9 => awp_reg rfl <| AR.op rfl (aop_move (.inl rfl) rfl) <| AR.op rfl (aop_move (.inl rfl) rfl) <| AR.op rfl (t_len_sl (slA i64) a_0 rfl rfl el42) <| AR.keep [0, 1, 5, 12, 14] rfl <| AR.op rfl (aop_lss rfl rfl rfl) ?_
    refine AR.nil <| hK9 _ (AWP.weak (Weak.kt [0, 1, 5, 15] rfl) ?_)
    refine awp_cond rfl (fun hb48 => ?_) (fun hb48 => ?_)
    ·replace h := Sh.if_t h hb48
     refine awp_skip <| hK8 _ (AWP.weak (Weak.kt [0, 1, 5] rfl) ?_)
     refine awp_seqK fun K10 hK10 => awp_block <| awp_seqK fun K11 hK11 => awp_any [(true, false), (true, false), (true, false), (true, false), (true, false), (true, false), (true, false), (true, false), (true, false), (true, false)] (by kernel_rfl) (by kernel_rfl) rfl ?_
     refine ARH.dry rfl (fun _ => aop_move (.inl rfl) rfl) <| ARH.dry rfl (fun _ => aop_move (.inl rfl) rfl) ?_
     obtain ⟨x59, hx59, h⟩ := Sh.bind_some' h
     obtain ⟨k60, hi60, hl60⟩ := Sh.idx_some hx59
     refine ARH.dry rfl (fun _ => t_index_sl (slA i64) a_0 hi60 hl60 rfl rfl rfl el42 rfl) <| ARH.keep [0, 1, 5, 20] rfl <| ARH.dry (r := .sl (List.map i64 x59)) rfl (fun _ => aop_load_pp rfl rfl sz25 rfl) <| ARH.dry rfl (fun _ => aop_move (.inl rfl) rfl) <| ARH.dry rfl (fun _ => aop_move (.inl rfl) rfl) <| ARH.keep [0, 1, 5, 21, 22, 23] rfl ?_
     obtain ⟨x61, hx61, h⟩ := Sh.bind_some' h
     obtain ⟨k62, hi62, hl62⟩ := Sh.idx_some hx61
     refine ARH.dry rfl (fun _ => t_index_sl (slA i64) b_1 hi62 hl62 rfl rfl rfl el42 rfl) <| ARH.dry (r := .sl (List.map i64 x61)) rfl (fun _ => aop_load_pp rfl rfl sz25 rfl) ?_
     obtain ⟨r63, hr63, h⟩ := Sh.bind_some' h
     refine ARH.dry (r := bl r63) rfl (fun _ => aop_call1 rfl rfl (by simp) (inquestref07_Ints_ok hT hr63)) <| ARH.keep [0, 1, 5, 26] rfl <| ARH.dry rfl (fun _ => aop_move (.inr rfl) rfl) <| ARH.nil <| hK11 _ (AWP.weak (Weak.kt [0, 1, 5, 6] rfl) ?_)
     refine awp_seqK fun K12 hK12 => awp_reg rfl <| AR.op rfl (aop_move (.inl rfl) rfl) <| AR.op (r := bl (!r63)) rfl (aop_not rfl rfl) <| AR.nil <| hK12 _ (AWP.weak (Weak.kt [0, 1, 5, 28] rfl) ?_)
     refine awp_cond rfl (fun hb64 => ?_) (fun hb64 => ?_)
     ·replace h := Sh.if_t h hb64
      refine awp_seqK fun K13 hK13 => awp_reg rfl <| AR.op rfl (aop_move (.inr rfl) rfl) <| AR.nil <| hK13 _ (AWP.weak (Weak.kt [4] rfl) ?_)
      refine awp_ret ?_
      replace h := Sh.exit_eq h hx1
      obtain rfl := Option.some.inj h
      refine ⟨.inr rfl, bl false, rfl, ?_⟩
      exact Weak.e ⟨.k, trivial⟩
     ·replace h := Sh.if_f h hb64
      refine awp_skip <| hK10 _ (AWP.weak (Weak.kt [0, 1, 5] rfl) ?_)
      refine awp_reg rfl <| AR.op rfl (aop_move (.inl rfl) rfl) <| AR.op rfl (aop_add rfl rfl rfl rfl) <| AR.op rfl (aop_move (.inr rfl) rfl) <| AR.nil ?_
      replace h := Sh.next_eq h
      exact ⟨_, h, Weak.kt [0, 1, 5] rfl⟩
    ·replace h := Sh.if_f h hb48
     refine awp_exit ?_
     replace h := Sh.exit_eq h hx1
     exact hK6 () _ h (Weak.kt [] rfl)
theorem inquestlaw14_rows_ok {W0 : World} (hT : Tab W0) {a_0 : List (List Int)} {b_1 : List (List Int)} {r : Bool} (h : G.inquestlaw14_rows a_0 b_1 = some r) : Fun1 Tryd.prog W0 26 [.sl (List.map (slA i64) a_0), .sl (List.map (slA i64) b_1)] (bl r) := Fun1.two (inquestlaw14_rows_ok0 hT h) (by simp)


theorem inquestlaw14_awake_ok0 {W0 : World} (hT : Tab W0) {r : Bool} (h : G.inquestlaw14_awake = some r) : Fun2 Tryd.prog W0 21 [] (bl r) .empty := by
 refine fun2_of_awp Tryd.func21 rfl (by kernel_rfl) Tryd.ntmps21 (by simp) ?_
 unfold G.inquestlaw14_awake at h
 show AWP _ _ _ _ ⟨[], .empty⟩ _
 refine awp_seqK fun K1 hK1 => awp_reg rfl <| AR.op rfl (aop_move (.inr rfl) rfl) <| AR.nil <| hK1 _ (AWP.weak (Weak.kt [] rfl) ?_)
 refine awp_seqK fun K2 hK2 => awp_reg rfl <| AR.op (r := .clip (List.map u64 [2#64, 5#64, 0#64])) rfl (aop_buildSlice rfl (xo := [.const (.int .u64 2), .const (.int .u64 5), .const (.int .u64 0)]) rfl rfl rfl (by simp [AV.solid]) (by simp [AV.flat]) el22 ze22 (by decide)) <| AR.op (r := .agg [i64 3, .clip (List.map u64 [2#64, 5#64, 0#64])]) rfl (aop_build rfl bd24 rfl rfl rfl) <| AR.op (r := .ref 0 0 0) rfl (aop_alloc 2 [.agg [i64 0, nilS]] rfl zr24 (by kernel_rfl) (.inl ⟨rfl, rfl⟩)) <| AR.keep [3, 1] rfl <| AR.op rfl (aop_store (e' := .agg [i64 3, .clip (List.map u64 [2#64, 5#64, 0#64])]) rfl rfl rfl rfl rfl rfl sz24 rfl dt rfl) <| AR.nil ?_
 refine hK2 _ (AWP.weak (Weak.e (fr' := [(1, .pp [i64 3, .clip (List.map u64 [2#64, 5#64, 0#64])] 0)]) (H' := .empty) ⟨⟨_, rfl, .frzA rfl rfl rfl rfl (by simp)⟩, trivial⟩) ?_)
 refine awp_seqK fun K3 hK3 => awp_reg rfl <| AR.op (r := .agg [i64 3, .clip (List.map u64 [2#64, 5#64, 0#64])]) rfl (aop_load_pp rfl rfl sz24 rfl) ?_
 obtain ⟨r18, hr18, h⟩ := Sh.bind_some' h
 refine AR.op (r := .sl (List.map (slA i64) r18)) rfl (aop_callN rfl (ys := [.agg [i64 3, .clip (List.map u64 [2#64, 5#64, 0#64])]]) (xs := [G.graph_Graph.av (G.graph_Graph.mk 3 [2#64, 5#64, 0#64])]) rfl (Weak.e (fr' := argsFr 0 [G.graph_Graph.av (G.graph_Graph.mk 3 [2#64, 5#64, 0#64])]) (H' := .empty) ⟨⟨.agg [i64 3, .clip (List.map u64 [2#64, 5#64, 0#64])], rfl, .ag ⟨.sm, .wide _ (by simp), trivial⟩⟩, trivial⟩) rfl (by simp) (scc_Comps_ok hT hr18)) <| AR.op (r := .clip (List.map i64 [0, 1])) rfl (aop_buildSlice rfl (xo := [.const (.int .i64 0), .const (.int .i64 1)]) rfl rfl rfl (by simp [AV.solid]) (by simp [AV.flat]) el25 ze25 (by decide)) <| AR.keep [1, 5, 6] rfl <| AR.op (r := .clip (List.map i64 [2])) rfl (aop_buildSlice rfl (xo := [.const (.int .i64 2)]) rfl rfl rfl (by simp [AV.solid]) (by simp [AV.flat]) el25 ze25 (by decide)) <| AR.op (r := .clip (List.map (slA i64) ([[0, 1], [2]] : List (List Int)))) rfl ((aop_buildSlice (xs := [.clip (List.map i64 [0, 1]), .clip (List.map i64 [2])]) rfl (xo := [.tmp 6, .tmp 7]) rfl rfl rfl (by simp [AV.solid]) (by simp [AV.flat]) el42 ze42 (by decide)).clipw ⟨⟨.clip _, trivial⟩, ⟨.clip _, trivial⟩, trivial⟩) ?_
 obtain ⟨r19, hr19, h⟩ := Sh.bind_some' h
 refine AR.op (r := bl r19) rfl (aop_callN rfl (ys := [.sl (List.map (slA i64) r18), .clip (List.map (slA i64) ([[0, 1], [2]] : List (List Int)))]) (xs := [.sl (List.map (slA i64) r18), .sl (List.map (slA i64) ([[0, 1], [2]] : List (List Int)))]) rfl (Weak.e (fr' := argsFr 0 [.sl (List.map (slA i64) r18), .sl (List.map (slA i64) ([[0, 1], [2]] : List (List Int)))]) (H' := .empty) ⟨⟨.sl (List.map (slA i64) r18), rfl, .sm⟩, ⟨.clip (List.map (slA i64) ([[0, 1], [2]] : List (List Int))), rfl, .wide _ (by simp)⟩, trivial⟩) rfl (by simp) (inquestlaw14_rows_ok hT hr19)) <| AR.keep [1, 9] rfl <| AR.op rfl (aop_move (.inl rfl) rfl) ?_
 rcases Bool.eq_false_or_eq_true (r19) with hb20 | hb20
 ·rw [hb20]
  replace h := Sh.if_t h hb20
  refine AR.op (r := .agg [i64 3, .clip (List.map u64 [2#64, 5#64, 0#64])]) rfl (aop_load_pp rfl rfl sz24 rfl) ?_
  obtain ⟨r21, hr21, h⟩ := Sh.bind_some' h
  refine AR.op (r := .sl (List.map i64 r21)) rfl (aop_callN rfl (ys := [.agg [i64 3, .clip (List.map u64 [2#64, 5#64, 0#64])]]) (xs := [G.graph_Graph.av (G.graph_Graph.mk 3 [2#64, 5#64, 0#64])]) rfl (Weak.e (fr' := argsFr 0 [G.graph_Graph.av (G.graph_Graph.mk 3 [2#64, 5#64, 0#64])]) (H' := .empty) ⟨⟨.agg [i64 3, .clip (List.map u64 [2#64, 5#64, 0#64])], rfl, .ag ⟨.sm, .wide _ (by simp), trivial⟩⟩, trivial⟩) rfl (by simp) (scc_Which_ok hT hr21)) <| AR.keep [1, 10, 12] rfl <| AR.op (r := .clip (List.map i64 [0, 0, 1])) rfl (aop_buildSlice rfl (xo := [.const (.int .i64 0), .const (.int .i64 0), .const (.int .i64 1)]) rfl rfl rfl (by simp [AV.solid]) (by simp [AV.flat]) el25 ze25 (by decide)) ?_
  obtain ⟨r22, hr22, h⟩ := Sh.bind_some' h
  refine AR.op (r := bl r22) rfl (aop_callN rfl (ys := [.sl (List.map i64 r21), .clip (List.map i64 [0, 0, 1])]) (xs := [.sl (List.map i64 r21), .sl (List.map i64 [0, 0, 1])]) rfl (Weak.e (fr' := argsFr 0 [.sl (List.map i64 r21), .sl (List.map i64 [0, 0, 1])]) (H' := .empty) ⟨⟨.sl (List.map i64 r21), rfl, .sm⟩, ⟨.clip (List.map i64 [0, 0, 1]), rfl, .wide _ (by simp)⟩, trivial⟩) rfl (by simp) (inquestref07_Ints_ok hT hr22)) <| AR.op rfl (aop_pick rfl rfl rfl) <| AR.keep [1, 15] rfl <| AR.op rfl (aop_move (.inl rfl) rfl) ?_
  rcases Bool.eq_false_or_eq_true (r22) with hb23 | hb23
  ·rw [hb23]
   replace h := Sh.if_t h hb23
   refine AR.op (r := .agg [i64 3, .clip (List.map u64 [2#64, 5#64, 0#64])]) rfl (aop_load_pp rfl rfl sz24 rfl) ?_
   obtain ⟨r24, hr24, h⟩ := Sh.bind_some' h
   refine AR.op (r := .sl (List.map i64 r24)) rfl (aop_callN rfl (ys := [.agg [i64 3, .clip (List.map u64 [2#64, 5#64, 0#64])]]) (xs := [G.graph_Graph.av (G.graph_Graph.mk 3 [2#64, 5#64, 0#64])]) rfl (Weak.e (fr' := argsFr 0 [G.graph_Graph.av (G.graph_Graph.mk 3 [2#64, 5#64, 0#64])]) (H' := .empty) ⟨⟨.agg [i64 3, .clip (List.map u64 [2#64, 5#64, 0#64])], rfl, .ag ⟨.sm, .wide _ (by simp), trivial⟩⟩, trivial⟩) rfl (by simp) (scc_Inner_ok hT hr24)) <| AR.keep [16, 18] rfl <| AR.op (r := .clip (List.map i64 [0, 1])) rfl (aop_buildSlice rfl (xo := [.const (.int .i64 0), .const (.int .i64 1)]) rfl rfl rfl (by simp [AV.solid]) (by simp [AV.flat]) el25 ze25 (by decide)) ?_
   obtain ⟨r25, hr25, h⟩ := Sh.bind_some' h
   refine AR.op (r := bl r25) rfl (aop_callN rfl (ys := [.sl (List.map i64 r24), .clip (List.map i64 [0, 1])]) (xs := [.sl (List.map i64 r24), .sl (List.map i64 [0, 1])]) rfl (Weak.e (fr' := argsFr 0 [.sl (List.map i64 r24), .sl (List.map i64 [0, 1])]) (H' := .empty) ⟨⟨.sl (List.map i64 r24), rfl, .sm⟩, ⟨.clip (List.map i64 [0, 1]), rfl, .wide _ (by simp)⟩, trivial⟩) rfl (by simp) (inquestref07_Ints_ok hT hr25)) <| AR.op rfl (aop_pick rfl rfl rfl) <| AR.keep [21] rfl <| AR.op rfl (aop_move (.inr rfl) rfl) <| AR.nil <| hK3 _ (AWP.weak (Weak.kt [0] rfl) ?_)
   refine awp_ret ?_
   obtain rfl := Option.some.inj h
   refine ⟨.inr rfl, bl r25, rfl, ?_⟩
   exact Weak.e ⟨.k, trivial⟩
  ·rw [hb23]
   replace h := Sh.if_f h hb23
   refine AR.skip rfl <| AR.skip rfl <| AR.keep [16, 18] rfl <| AR.skip rfl <| AR.skip rfl <| AR.op rfl (aop_pick rfl rfl rfl) <| AR.keep [21] rfl <| AR.op rfl (aop_move (.inr rfl) rfl) ?_
   refine AR.nil <| hK3 _ (AWP.weak (Weak.kt [0] rfl) ?_)
   refine awp_ret ?_
   obtain rfl := Option.some.inj h
   refine ⟨.inr rfl, bl false, rfl, ?_⟩
   exact Weak.e ⟨.k, trivial⟩
 ·rw [hb20]
  replace h := Sh.if_f h hb20
  refine AR.skip rfl <| AR.skip rfl <| AR.keep [1, 10, 12] rfl <| AR.skip rfl <| AR.skip rfl <| AR.op rfl (aop_pick rfl rfl rfl) <| AR.keep [1, 15] rfl <| AR.op rfl (aop_move (.inl rfl) rfl) ?_
  refine AR.skip rfl <| AR.skip rfl <| AR.keep [16, 18] rfl <| AR.skip rfl <| AR.skip rfl <| AR.op rfl (aop_pick rfl rfl rfl) <| AR.keep [21] rfl <| AR.op rfl (aop_move (.inr rfl) rfl) ?_
  refine AR.nil <| hK3 _ (AWP.weak (Weak.kt [0] rfl) ?_)
  refine awp_ret ?_
  obtain rfl := Option.some.inj h
  refine ⟨.inr rfl, bl false, rfl, ?_⟩
  exact Weak.e ⟨.k, trivial⟩
theorem inquestlaw14_awake_ok {W0 : World} (hT : Tab W0) {r : Bool} (h : G.inquestlaw14_awake = some r) : Fun1 Tryd.prog W0 21 [] (bl r) := Fun1.two (inquestlaw14_awake_ok0 hT h) (by simp)


end Wk
