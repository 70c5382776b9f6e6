/- That the functions of a package do what their plain functions say. -/
import Derived.Test.YtkiiigfefobdlaaDoorSh
import Derived.Test.YtkiiigfefobdlaaDoorWkCFacts
import Derived.Test.YtkiiigfefobdlaaDoorWkCinquestref10
open Go Go.Av Go.Proofs
set_option linter.unusedVariables false
set_option maxHeartbeats 8000000
set_option maxRecDepth 20000
namespace Wk
theorem inquestref12_Right_ok0 {W0 : World} (hT : Tab W0) {g_0 : G.inquestref12_G} {r : Bool} (h : G.inquestref12_Right g_0 = some r) : Fun2 Tryd.prog W0 13 [G.inquestref12_G.av g_0] (bl r) .empty := by
 refine fun2_of_awp Tryd.func13 rfl (by kernel_rfl) Tryd.ntmps13 (by simp) ?_
 unfold G.inquestref12_Right at h
 show AWP _ _ _ _ ⟨[(0, G.inquestref12_G.av g_0)], .empty⟩ _
 refine awp_seqK fun K1 hK1 => awp_reg rfl <| AR.op (r := .ref 0 0 0) rfl (aop_box 2 [G.inquestref12_G.av g_0] rfl rfl rfl (.inl ⟨rfl, rfl⟩)) <| AR.op rfl (aop_move (.inr rfl) rfl) <| AR.nil <| hK1 _ (AWP.weak (Weak.e (fr' := [(1, .pp [i64 g_0.N, .sl (List.map u64 g_0.Rows)] 0)]) (H' := .empty) ⟨⟨_, rfl, .frzA rfl rfl rfl rfl (by simp)⟩, trivial⟩) ?_)
 refine awp_seqK fun K2 hK2 => awp_seqJ (fun (p : Bool) => (⟨[(1, .pp [i64 g_0.N, .sl (List.map u64 g_0.Rows)] 0), (21, bl p)], .empty⟩ : St)) (fun (p : Bool) => G.inquestref12_Right_j1 g_0 p = some r) ?_ ?_
 ·rintro v44 h
  replace h : G.inquestref12_Right_j1 g_0 v44 = some r := h
  unfold G.inquestref12_Right_j1 at h
  refine awp_cond rfl (fun hb45 => ?_) (fun hb45 => ?_)
  ·replace h := Sh.if_t h hb45
   refine awp_seqK fun K3 hK3 => awp_reg rfl <| AR.op rfl (aop_move (.inr rfl) rfl) <| AR.nil <| hK3 _ (AWP.weak (Weak.kt [2] rfl) ?_)
   refine awp_ret ?_
   obtain rfl := Option.some.inj h
   refine ⟨.inr rfl, bl false, rfl, ?_⟩
   exact Weak.e ⟨.k, trivial⟩
  ·replace h := Sh.if_f h hb45
   refine awp_skip <| hK2 _ (AWP.weak (Weak.kt [1] rfl) ?_)
   refine awp_seqJ (fun (p : Unit) => (⟨[], .empty⟩ : St)) (fun (p : Unit) => G.inquestref12_Right_j2 = some r) ?_ ?_
   ·rintro ⟨⟩ h
    replace h : G.inquestref12_Right_j2 = some r := h
    unfold G.inquestref12_Right_j2 at h
    refine awp_seqK fun K4 hK4 => awp_reg rfl <| AR.op rfl (aop_move (.inr rfl) rfl) <| AR.nil <| hK4 _ ?_
    refine awp_ret ?_
    obtain rfl := Option.some.inj h
    refine ⟨.inr rfl, bl true, rfl, ?_⟩
    exact Weak.e ⟨.k, trivial⟩
   ·intro K5 hK5
    refine awp_seqK fun K6 hK6 => awp_reg rfl <| AR.op rfl (aop_move (.inr rfl) rfl) <| AR.nil <| hK6 _ ?_
    refine awp_block <| awp_iter (fun (p : Int) => G.inquestref12_Right_b1 g_0 p) (fun (p : Int) => (⟨[(1, .pp [i64 g_0.N, .sl (List.map u64 g_0.Rows)] 0), (3, i64 p)], .empty⟩ : St)) h (Weak.kt [1, 3] rfl) ?_
    ·skip
     rintro i104 o1 h hx1
     replace h : G.inquestref12_Right_b1 g_0 i104 = some o1 := h
     unfold G.inquestref12_Right_b1 at h
     refine awp_seqK fun K7 hK7 => awp_seqK fun K8 hK8 => awp_reg rfl <| AR.op rfl (aop_move (.inl rfl) rfl) <| AR.op rfl (aop_field_pp rfl rfl fd27_0 (by decide)) <| AR.op (r := i64 g_0.N) rfl (aop_load_pp rfl rfl sz3 rfl) <| AR.keep [1, 3, 22, 24] rfl <| AR.op rfl (aop_lss rfl rfl rfl) ?_
     refine AR.nil <| hK8 _ (AWP.weak (Weak.kt [1, 3, 25] rfl) ?_)
     refine awp_cond rfl (fun hb105 => ?_) (fun hb105 => ?_)
     ·replace h := Sh.if_t h hb105
      refine awp_skip <| hK7 _ (AWP.weak (Weak.kt [1, 3] rfl) ?_)
      refine awp_seqJ (fun (p : Unit) => (⟨[(1, .pp [i64 g_0.N, .sl (List.map u64 g_0.Rows)] 0), (3, i64 i104)], .empty⟩ : St)) (fun (p : Unit) => G.inquestref12_Right_j3 i104 = some o1) ?_ ?_
      ·rintro ⟨⟩ h
       replace h : G.inquestref12_Right_j3 i104 = some o1 := h
       unfold G.inquestref12_Right_j3 at h
       refine awp_reg rfl <| AR.op rfl (aop_move (.inl rfl) rfl) <| AR.op rfl (aop_add rfl rfl rfl rfl) <| AR.op rfl (aop_move (.inr rfl) rfl) <| AR.nil ?_
       replace h := Sh.next_eq h
       exact ⟨_, h, Weak.kt [1, 3] rfl⟩
      ·intro K9 hK9
       refine awp_block <| awp_seqK fun K10 hK10 => awp_reg rfl <| AR.op rfl (aop_field_pp rfl rfl fd27_0 (by decide)) <| AR.op (r := i64 g_0.N) rfl (aop_load_pp rfl rfl sz3 rfl) <| AR.op rfl (aop_move (.inr rfl) rfl) <| AR.nil <| hK10 _ (AWP.weak (Weak.kt [1, 3, 4] rfl) ?_)
       refine awp_block <| awp_iter (fun (p : Int) => G.inquestref12_Right_b2 g_0 i104 p) (fun (p : Int) => (⟨[(1, .pp [i64 g_0.N, .sl (List.map u64 g_0.Rows)] 0), (3, i64 i104), (4, i64 p)], .empty⟩ : St)) h (Weak.kt [1, 3, 4] rfl) ?_
       ·skip
        rintro k124 o2 h hx2
        replace h : G.inquestref12_Right_b2 g_0 i104 k124 = some o2 := h
        unfold G.inquestref12_Right_b2 at h
        refine awp_seqK fun K11 hK11 => awp_seqK fun K12 hK12 => awp_reg rfl <| AR.op rfl (aop_move (.inl rfl) rfl) <| AR.op rfl (aop_lss rfl rfl rfl) <| AR.nil <| hK12 _ (AWP.weak (Weak.kt [1, 3, 4, 31] rfl) ?_)
        refine awp_cond rfl (fun hb125 => ?_) (fun hb125 => ?_)
        ·replace h := Sh.if_t h hb125
         refine awp_skip <| hK11 _ (AWP.weak (Weak.kt [1, 3, 4] rfl) ?_)
         refine awp_seqK fun K13 hK13 => awp_block <| awp_seqK fun K14 hK14 => awp_reg rfl <| AR.op rfl (aop_field_pp rfl rfl fd27_1 (by decide)) <| AR.op (r := .sl (List.map u64 g_0.Rows)) rfl (aop_load_pp rfl rfl sz22 rfl) <| AR.op rfl (aop_move (.inl rfl) rfl) <| AR.keep [1, 3, 4, 35, 36] rfl ?_
         obtain ⟨x132, hx132, h⟩ := Sh.bind_some' h
         obtain ⟨k133, hi133, hl133⟩ := Sh.idx_some hx132
         refine AR.op rfl (t_index_sl u64 g_0.Rows hi133 hl133 rfl rfl rfl el22 rfl) <| AR.op (r := u64 x132) rfl (aop_load_pp rfl rfl sz35 rfl) <| AR.op rfl (aop_move (.inl rfl) rfl) <| AR.keep [1, 3, 4, 38, 39] rfl ?_
         obtain ⟨r134, hr134, h⟩ := Sh.bind_some' h
         refine AR.op (r := bl r134) rfl (aop_call1 rfl rfl (by simp) (inquestref10_Has_ok hT hr134)) <| AR.op rfl (aop_move (.inr rfl) rfl) <| AR.nil <| hK14 _ (AWP.weak (Weak.kt [1, 3, 4, 5] rfl) ?_)
         refine awp_seqK fun K15 hK15 => awp_reg rfl <| AR.op rfl (aop_move (.inl rfl) rfl) <| AR.nil <| hK15 _ (AWP.weak (Weak.kt [1, 3, 4, 41] rfl) ?_)
         refine awp_cond rfl (fun hb135 => ?_) (fun hb135 => ?_)
         ·replace h := Sh.if_t h hb135
          refine awp_seqK fun K16 hK16 => awp_reg rfl <| AR.op rfl (aop_move (.inr rfl) rfl) <| AR.nil <| hK16 _ (AWP.weak (Weak.kt [2] rfl) ?_)
          refine awp_ret ?_
          replace h := Sh.exit_eq h hx2
          replace h := Sh.exit_eq h hx1
          obtain rfl := Option.some.inj h
          refine ⟨.inr rfl, bl false, rfl, ?_⟩
          exact Weak.e ⟨.k, trivial⟩
         ·replace h := Sh.if_f h hb135
          refine awp_skip <| hK13 _ (AWP.weak (Weak.kt [1, 3, 4] rfl) ?_)
          refine awp_reg rfl <| AR.op rfl (aop_move (.inl rfl) rfl) <| AR.op rfl (aop_add rfl rfl rfl rfl) <| AR.op rfl (aop_move (.inr rfl) rfl) <| AR.nil ?_
          replace h := Sh.next_eq h
          exact ⟨_, h, Weak.kt [1, 3, 4] rfl⟩
        ·replace h := Sh.if_f h hb125
         refine awp_exit ?_
         replace h := Sh.exit_eq h hx2
         exact hK9 () _ h (Weak.kt [1, 3] rfl)
     ·replace h := Sh.if_f h hb105
      refine awp_exit ?_
      replace h := Sh.exit_eq h hx1
      exact hK5 () _ h (Weak.kt [] rfl)
 ·intro K17 hK17
  refine awp_reg rfl <| AR.op rfl (aop_field_pp rfl rfl fd27_0 (by decide)) <| AR.op (r := i64 g_0.N) rfl (aop_load_pp rfl rfl sz3 rfl) <| AR.op rfl (aop_lss rfl rfl rfl) <| AR.keep [1, 8] rfl <| AR.op rfl (aop_move (.inl rfl) rfl) ?_
  rcases Bool.eq_false_or_eq_true (decide (g_0.N < 0)) with hb136 | hb136
  ·rw [hb136]
   replace h := Sh.if_t h hb136
   refine AR.skip rfl <| AR.skip rfl <| AR.keep [1, 9, 11] rfl <| AR.skip rfl <| AR.op rfl (aop_pick rfl rfl rfl) <| AR.op rfl (aop_move (.inl rfl) rfl) <| AR.keep [1, 14] rfl <| AR.skip rfl ?_
   refine AR.skip rfl <| AR.skip rfl <| AR.keep [1, 14, 17] rfl <| AR.skip rfl <| AR.skip rfl <| AR.skip rfl <| AR.keep [1, 14, 20] rfl <| AR.op rfl (aop_pick rfl rfl rfl) ?_
   refine AR.nil ?_
   exact hK17 true _ h (Weak.kt [1, 21] rfl)
  ·rw [hb136]
   replace h := Sh.if_f h hb136
   refine AR.op rfl (aop_field_pp rfl rfl fd27_0 (by decide)) <| AR.op (r := i64 g_0.N) rfl (aop_load_pp rfl rfl sz3 rfl) <| AR.keep [1, 9, 11] rfl <| AR.op rfl (aop_gtr rfl rfl rfl) <| AR.op rfl (aop_pick rfl rfl rfl) <| AR.op rfl (aop_move (.inl rfl) rfl) <| AR.keep [1, 14] rfl ?_
   rcases Bool.eq_false_or_eq_true (decide ((64 : Int) < g_0.N)) with hb137 | hb137
   ·rw [hb137]
    replace h := Sh.if_t h hb137
    refine AR.skip rfl <| AR.skip rfl <| AR.skip rfl <| AR.keep [1, 14, 17] rfl <| AR.skip rfl <| AR.skip rfl <| AR.skip rfl <| AR.keep [1, 14, 20] rfl ?_
    refine AR.op rfl (aop_pick rfl rfl rfl) <| AR.nil ?_
    exact hK17 true _ h (Weak.kt [1, 21] rfl)
   ·rw [hb137]
    replace h := Sh.if_f h hb137
    refine AR.op rfl (aop_field_pp rfl rfl fd27_1 (by decide)) <| AR.op (r := .sl (List.map u64 g_0.Rows)) rfl (aop_load_pp rfl rfl sz22 rfl) <| AR.op rfl (t_len_sl u64 g_0.Rows rfl rfl el22) <| AR.keep [1, 14, 17] rfl <| AR.op rfl (aop_field_pp rfl rfl fd27_0 (by decide)) <| AR.op (r := i64 g_0.N) rfl (aop_load_pp rfl rfl sz3 rfl) <| AR.op (r := bl (decide ((Sh.len g_0.Rows) ≠ g_0.N))) rfl (aop_neq rfl rfl rfl) <| AR.keep [1, 14, 20] rfl ?_
    refine AR.op rfl (aop_pick rfl rfl rfl) <| AR.nil ?_
    exact hK17 (decide ((Sh.len g_0.Rows) ≠ g_0.N)) _ h (Weak.kt [1, 21] rfl)
theorem inquestref12_Right_ok {W0 : World} (hT : Tab W0) {g_0 : G.inquestref12_G} {r : Bool} (h : G.inquestref12_Right g_0 = some r) : Fun1 Tryd.prog W0 13 [G.inquestref12_G.av g_0] (bl r) := Fun1.two (inquestref12_Right_ok0 hT h) (by simp)


theorem inquestref12_Has_ok0 {W0 : World} (hT : Tab W0) {g_0 : G.inquestref12_G} {a_1 : Int} {b_2 : Int} {r : Bool} (h : G.inquestref12_Has g_0 a_1 b_2 = some r) : Fun2 Tryd.prog W0 38 [G.inquestref12_G.av g_0, i64 a_1, i64 b_2] (bl r) .empty := by
 refine fun2_of_awp Tryd.func38 rfl (by kernel_rfl) Tryd.ntmps38 (by simp) ?_
 unfold G.inquestref12_Has at h
 show AWP _ _ _ _ ⟨[(0, G.inquestref12_G.av g_0), (1, i64 a_1), (2, i64 b_2)], .empty⟩ _
 refine awp_seqK fun K1 hK1 => awp_reg rfl <| AR.op (r := .ref 0 0 0) rfl (aop_box 2 [G.inquestref12_G.av g_0] rfl rfl rfl (.inl ⟨rfl, rfl⟩)) <| AR.op rfl (aop_move (.inr rfl) rfl) <| AR.nil <| hK1 _ (AWP.weak (Weak.e (fr' := [(1, i64 a_1), (2, i64 b_2), (3, .pp [i64 g_0.N, .sl (List.map u64 g_0.Rows)] 0)]) (H' := .empty) ⟨.k, .k, ⟨_, rfl, .frzA rfl rfl rfl rfl (by simp)⟩, trivial⟩) ?_)
 refine awp_seqK fun K2 hK2 => awp_reg rfl <| AR.op rfl (aop_field_pp rfl rfl fd27_1 (by decide)) <| AR.op (r := .sl (List.map u64 g_0.Rows)) rfl (aop_load_pp rfl rfl sz22 rfl) <| AR.op rfl (aop_move (.inl rfl) rfl) <| AR.keep [2, 8, 9] rfl ?_
 obtain ⟨x7, hx7, h⟩ := Sh.bind_some' h
 obtain ⟨k8, hi8, hl8⟩ := Sh.idx_some hx7
 refine AR.op rfl (t_index_sl u64 g_0.Rows hi8 hl8 rfl rfl rfl el22 rfl) <| AR.op (r := u64 x7) rfl (aop_load_pp rfl rfl sz35 rfl) <| AR.op rfl (aop_move (.inl rfl) rfl) <| AR.keep [11, 12] rfl ?_
 obtain ⟨r9, hr9, h⟩ := Sh.bind_some' h
 refine AR.op (r := bl r9) rfl (aop_call1 rfl rfl (by simp) (inquestref10_Has_ok hT hr9)) <| AR.op rfl (aop_move (.inr rfl) rfl) <| AR.nil <| hK2 _ (AWP.weak (Weak.kt [6] rfl) ?_)
 refine awp_ret ?_
 obtain rfl := Option.some.inj h
 refine ⟨.inr rfl, bl r9, rfl, ?_⟩
 exact Weak.e ⟨.k, trivial⟩
theorem inquestref12_Has_ok {W0 : World} (hT : Tab W0) {g_0 : G.inquestref12_G} {a_1 : Int} {b_2 : Int} {r : Bool} (h : G.inquestref12_Has g_0 a_1 b_2 = some r) : Fun1 Tryd.prog W0 38 [G.inquestref12_G.av g_0, i64 a_1, i64 b_2] (bl r) := Fun1.two (inquestref12_Has_ok0 hT h) (by simp)


theorem inquestref12_New_own {W0 : World} (hT : Tab W0) {n_0 : Int} {r : G.inquestref12_G} (h : G.inquestref12_New n_0 = some r) : Fun2 Tryd.prog W0 74 [i64 n_0] (.agg [i64 r.N, .view 0 0 (List.map u64 r.Rows).length]) ⟨1, [(0, (1, List.map u64 r.Rows))], []⟩ := by
 refine fun2_of_awp Tryd.func74 rfl (by kernel_rfl) Tryd.ntmps74 (by simp) ?_
 unfold G.inquestref12_New at h
 show AWP _ _ _ _ ⟨[(0, i64 n_0)], .empty⟩ _
 refine awp_seqK fun K1 hK1 => awp_reg rfl <| AR.op (r := .ref 0 0 0) rfl (aop_alloc 2 [.agg [i64 0, nilS]] rfl zr27 (by kernel_rfl) (.inl ⟨rfl, rfl⟩)) <| AR.nil <| hK1 _ ?_
 refine awp_seqK fun K2 hK2 => awp_reg rfl <| AR.op rfl (aop_move (.inl rfl) rfl) <| AR.op (r := .agg [i64 n_0, nilS]) rfl (aop_build rfl bd27 rfl rfl rfl) <| AR.op (r := .ref 1 0 0) rfl (aop_alloc 2 [.agg [i64 0, nilS]] rfl zr27 (by kernel_rfl) (.inl ⟨rfl, rfl⟩)) <| AR.keep [0, 2, 6, 3] rfl <| AR.op rfl (aop_store (e' := .agg [i64 n_0, nilS]) rfl rfl rfl rfl rfl rfl sz27 rfl dt rfl) <| AR.nil ?_
 refine hK2 _ (AWP.weak (Weak.kt [0, 2, 3] rfl) ?_)
 refine awp_seqJ (fun (p : (List (BitVec 64))) => (⟨[(2, .ref 0 0 0), (3, .ref 1 0 0)], ⟨3, [(0, (2, [.agg [i64 0, nilS]])), (1, (2, [.agg [i64 n_0, .view 2 0 (List.map u64 p).length]])), (2, (1, List.map u64 p))], []⟩⟩ : St)) (fun (p : (List (BitVec 64))) => G.inquestref12_New_j1 n_0 p = some r) ?_ ?_
 ·rintro v15 h
  replace h : G.inquestref12_New_j1 n_0 v15 = some r := h
  unfold G.inquestref12_New_j1 at h
  refine awp_seqK fun K3 hK3 => awp_reg rfl <| AR.op (r := .agg [i64 n_0, .view 2 0 (List.map u64 v15).length]) rfl (aop_load_ref rfl rfl rfl rfl sz27 rfl) <| AR.op rfl (aop_store (e' := .agg [i64 n_0, .view 2 0 (List.map u64 v15).length]) rfl rfl rfl rfl rfl rfl sz27 rfl dt rfl) <| AR.nil <| hK3 _ (AWP.weak (Weak.re (fr' := [(2, .ref 0 0 0)]) (H' := ⟨2, [(0, (2, [.agg [i64 n_0, .view 1 0 (List.map u64 v15).length]])), (1, (1, List.map u64 v15))], []⟩) [(0, 0), (1, 2)] [] rfl rfl rfl (.cons rfl rfl (.one (.ag ⟨.sm, .view rfl, trivial⟩) rfl) dt (.cons rfl rfl (.same (by simp)) dt trivial)) ⟨⟨_, rfl, .ref rfl⟩, trivial⟩) ?_)
  refine awp_ret ?_
  obtain rfl := Option.some.inj h
  refine ⟨.inr rfl, .agg [i64 n_0, .view 1 0 (List.map u64 v15).length], rfl, ?_⟩
  exact Weak.re [(0, 1)] [] rfl rfl rfl (.cons rfl rfl (.same (by simp)) dt trivial) ⟨⟨.agg [i64 n_0, .view 1 0 (List.map u64 v15).length], rfl, .ag ⟨.sm, .view rfl, trivial⟩⟩, trivial⟩
 ·intro K4 hK4
  refine awp_seqK fun K5 hK5 => awp_reg rfl <| AR.op rfl (aop_move (.inr rfl) rfl) <| AR.nil <| hK5 _ ?_
  refine awp_block <| awp_iter (fun (p : (List (BitVec 64)) × Int) => G.inquestref12_New_b1 n_0 p.1 p.2) (fun (p : (List (BitVec 64)) × Int) => (⟨[(0, i64 n_0), (2, .ref 0 0 0), (3, .ref 1 0 0), (4, i64 p.2)], ⟨3, [(0, (2, [.agg [i64 0, nilS]])), (1, (2, [.agg [i64 n_0, .view 2 0 (List.map u64 p.1).length]])), (2, (1, List.map u64 p.1))], []⟩⟩ : St)) h (Weak.re [(0, 0), (1, 1)] [2] rfl rfl rfl (.cons rfl rfl (.one (.sm) rfl) dt (.cons rfl rfl (.one (.ag ⟨.sm, .nil (by simp), trivial⟩) rfl) dt (.fresh (by simp) dt trivial))) ⟨.k, ⟨_, rfl, .ref rfl⟩, ⟨_, rfl, .ref rfl⟩, .k, trivial⟩) ?_
  ·skip
   rintro ⟨gRows20, i21⟩ o1 h hx1
   replace h : G.inquestref12_New_b1 n_0 gRows20 i21 = some o1 := h
   unfold G.inquestref12_New_b1 at h
   refine awp_seqK fun K6 hK6 => awp_seqK fun K7 hK7 => awp_reg rfl <| AR.op rfl (aop_move (.inl rfl) rfl) <| AR.op rfl (aop_move (.inl rfl) rfl) <| AR.op rfl (aop_lss rfl rfl rfl) <| AR.nil <| hK7 _ (AWP.weak (Weak.kt [0, 2, 3, 4, 9] rfl) ?_)
   refine awp_cond rfl (fun hb22 => ?_) (fun hb22 => ?_)
   ·replace h := Sh.if_t h hb22
    refine awp_skip <| hK6 _ (AWP.weak (Weak.kt [0, 2, 3, 4] rfl) ?_)
    refine awp_seqK fun K8 hK8 => awp_block <| awp_reg rfl <| AR.op rfl (aop_field_ref rfl rfl rfl fd27_1 (by decide)) <| AR.op (r := .view 2 0 (List.map u64 gRows20).length) rfl (aop_load_ref rfl rfl rfl rfl sz22 rfl) <| AR.op (r := .clip (List.map u64 [0#64])) rfl (aop_buildSlice rfl (xo := [.const (.int .u64 0)]) rfl rfl rfl (by simp [AV.solid]) (by simp [AV.flat]) el22 ze22 (by decide)) <| AR.keep [0, 2, 3, 4, 13, 14] rfl ?_
    obtain ⟨l24, hl24, h⟩ := Sh.bind_some' h
    refine AR.op (r := .view 3 0 (List.map u64 l24).length) rfl (t_app_view u64 gRows20 [0#64] l24 hl24 rfl et22 (fun _ => rfl) rfl rfl rfl rfl rfl rfl rfl) <| AR.op rfl (aop_field_ref rfl rfl rfl fd27_1 (by decide)) <| AR.op rfl (aop_store (e' := .agg [i64 n_0, .view 3 0 (List.map u64 l24).length]) rfl rfl rfl rfl rfl rfl sz22 rfl dt rfl) <| AR.nil <| hK8 _ (AWP.weak (Weak.re (fr' := [(0, i64 n_0), (2, .ref 0 0 0), (3, .ref 1 0 0), (4, i64 i21)]) (H' := ⟨3, [(0, (2, [.agg [i64 0, nilS]])), (1, (2, [.agg [i64 n_0, .view 2 0 (List.map u64 l24).length]])), (2, (1, List.map u64 l24))], []⟩) [(0, 0), (1, 1), (2, 3)] [] rfl rfl rfl (.cons rfl rfl (.one (.sm) rfl) dt (.cons rfl rfl (.one (.ag ⟨.sm, .view rfl, trivial⟩) rfl) dt (.cons rfl rfl (.same (by simp)) dt trivial))) ⟨.k, ⟨_, rfl, .ref rfl⟩, ⟨_, rfl, .ref rfl⟩, .k, trivial⟩) ?_)
    refine awp_reg rfl <| AR.op rfl (aop_move (.inl rfl) rfl) <| AR.op rfl (aop_add rfl rfl rfl rfl) <| AR.op rfl (aop_move (.inr rfl) rfl) <| AR.nil ?_
    replace h := Sh.next_eq h
    exact ⟨_, h, Weak.kt [0, 2, 3, 4] rfl⟩
   ·replace h := Sh.if_f h hb22
    refine awp_exit ?_
    replace h := Sh.exit_eq h hx1
    exact hK4 gRows20 _ h (Weak.kt [2, 3] rfl)
end Wk
