/- That the functions of a package do what their plain functions say. -/
import Derived.Test.YtkiiigfefobdlaaDoorSh
import Derived.Test.YtkiiigfefobdlaaDoorWkCFacts
import Derived.Test.YtkiiigfefobdlaaDoorWkCinquestref12
import Derived.Test.YtkiiigfefobdlaaDoorWkCinquestref13
open Go Go.Av Go.Proofs
set_option linter.unusedVariables false
set_option maxHeartbeats 8000000
set_option maxRecDepth 20000
namespace Wk
theorem inquestref14_together_ok0 {W0 : World} (hT : Tab W0) {c_0 : G.inquestref12_G} {x_1 : Int} {y_2 : Int} {r : Bool} (h : G.inquestref14_together c_0 x_1 y_2 = some r) : Fun2 Tryd.prog W0 53 [G.inquestref12_G.av c_0, i64 x_1, i64 y_2] (bl r) .empty := by
 refine fun2_of_awp Tryd.func53 rfl (by kernel_rfl) Tryd.ntmps53 (by simp) ?_
 unfold G.inquestref14_together at h
 show AWP _ _ _ _ ⟨[(0, G.inquestref12_G.av c_0), (1, i64 x_1), (2, i64 y_2)], .empty⟩ _
 refine awp_seqK fun K1 hK1 => awp_reg rfl <| AR.op (r := .ref 0 0 0) rfl (aop_box 2 [G.inquestref12_G.av c_0] rfl rfl rfl (.inl ⟨rfl, rfl⟩)) <| AR.op rfl (aop_move (.inr rfl) rfl) <| AR.nil <| hK1 _ (AWP.weak (Weak.e (fr' := [(1, i64 x_1), (2, i64 y_2), (3, .pp [i64 c_0.N, .sl (List.map u64 c_0.Rows)] 0)]) (H' := .empty) ⟨.k, .k, ⟨_, rfl, .frzA rfl rfl rfl rfl (by simp)⟩, trivial⟩) ?_)
 refine awp_seqK fun K2 hK2 => awp_reg rfl <| AR.op (r := G.inquestref12_G.av c_0) rfl (aop_load_pp rfl rfl sz27 rfl) <| AR.op rfl (aop_move (.inl rfl) rfl) <| AR.op rfl (aop_move (.inl rfl) rfl) <| AR.keep [1, 2, 3, 9, 10, 11] rfl ?_
 obtain ⟨r7, hr7, h⟩ := Sh.bind_some' h
 refine AR.op (r := bl r7) rfl (aop_call1 rfl rfl (by simp) (inquestref12_Has_ok hT hr7)) <| AR.op rfl (aop_move (.inr rfl) rfl) <| AR.nil <| hK2 _ (AWP.weak (Weak.kt [1, 2, 3, 7] rfl) ?_)
 refine awp_seqK fun K3 hK3 => awp_reg rfl <| AR.op (r := G.inquestref12_G.av c_0) rfl (aop_load_pp rfl rfl sz27 rfl) <| AR.op rfl (aop_move (.inl rfl) rfl) <| AR.op rfl (aop_move (.inl rfl) rfl) <| AR.keep [1, 2, 7, 13, 14, 15] rfl ?_
 obtain ⟨r9, hr9, h⟩ := Sh.bind_some' h
 refine AR.op (r := bl r9) rfl (aop_call1 rfl rfl (by simp) (inquestref12_Has_ok hT hr9)) <| AR.op rfl (aop_move (.inr rfl) rfl) <| AR.nil <| hK3 _ (AWP.weak (Weak.kt [1, 2, 7, 8] rfl) ?_)
 refine awp_seqK fun K4 hK4 => awp_reg rfl <| AR.op rfl (aop_move (.inl rfl) rfl) <| AR.op rfl (aop_move (.inl rfl) rfl) <| AR.op (r := bl (decide (x_1 = y_2))) rfl (aop_eql rfl rfl rfl) <| AR.keep [7, 8, 19] rfl <| AR.op rfl (aop_move (.inl rfl) rfl) ?_
 rcases Bool.eq_false_or_eq_true (decide (x_1 = y_2)) with hb12 | hb12
 ·rw [hb12]
  replace h := Sh.if_t h hb12
  refine AR.skip rfl <| AR.skip rfl <| AR.keep [8, 20, 22] rfl <| AR.skip rfl <| AR.skip rfl <| AR.op rfl (aop_pick rfl rfl rfl) <| AR.keep [25] rfl <| AR.op rfl (aop_move (.inr rfl) rfl) ?_
  refine AR.nil <| hK4 _ (AWP.weak (Weak.kt [6] rfl) ?_)
  refine awp_ret ?_
  obtain rfl := Option.some.inj h
  refine ⟨.inr rfl, bl true, rfl, ?_⟩
  exact Weak.e ⟨.k, trivial⟩
 ·rw [hb12]
  replace h := Sh.if_f h hb12
  refine AR.op rfl (aop_move (.inl rfl) rfl) <| AR.op rfl (aop_move (.inl rfl) rfl) <| AR.keep [8, 20, 22] rfl ?_
  rcases Bool.eq_false_or_eq_true (r7) with hb13 | hb13
  ·rw [hb13]
   replace h := Sh.if_t h hb13
   refine AR.op rfl (aop_move (.inl rfl) rfl) <| AR.op rfl (aop_pick rfl rfl rfl) <| AR.op rfl (aop_pick rfl rfl rfl) <| AR.keep [25] rfl <| AR.op rfl (aop_move (.inr rfl) rfl) <| AR.nil <| hK4 _ (AWP.weak (Weak.kt [6] rfl) ?_)
   refine awp_ret ?_
   obtain rfl := Option.some.inj h
   refine ⟨.inr rfl, bl r9, rfl, ?_⟩
   exact Weak.e ⟨.k, trivial⟩
  ·rw [hb13]
   replace h := Sh.if_f h hb13
   refine AR.skip rfl <| AR.op rfl (aop_pick rfl rfl rfl) <| AR.op rfl (aop_pick rfl rfl rfl) <| AR.keep [25] rfl <| AR.op rfl (aop_move (.inr rfl) rfl) <| AR.nil <| hK4 _ (AWP.weak (Weak.kt [6] rfl) ?_)
   refine awp_ret ?_
   obtain rfl := Option.some.inj h
   refine ⟨.inr rfl, bl false, rfl, ?_⟩
   exact Weak.e ⟨.k, trivial⟩
theorem inquestref14_together_ok {W0 : World} (hT : Tab W0) {c_0 : G.inquestref12_G} {x_1 : Int} {y_2 : Int} {r : Bool} (h : G.inquestref14_together c_0 x_1 y_2 = some r) : Fun1 Tryd.prog W0 53 [G.inquestref12_G.av c_0, i64 x_1, i64 y_2] (bl r) := Fun1.two (inquestref14_together_ok0 hT h) (by simp)


theorem inquestref14_Which_own {W0 : World} (hT : Tab W0) {g_0 : G.inquestref12_G} {r : (List Int)} (h : G.inquestref14_Which g_0 = some r) : Fun2 Tryd.prog W0 28 [G.inquestref12_G.av g_0] (.view 0 0 (List.map i64 r).length) ⟨1, [(0, (1, List.map i64 r))], []⟩ := by
 refine fun2_of_awp Tryd.func28 rfl (by kernel_rfl) Tryd.ntmps28 (by simp) ?_
 unfold G.inquestref14_Which at h
 show AWP _ _ _ _ ⟨[(0, G.inquestref12_G.av g_0)], .empty⟩ _
 refine awp_seqK fun K1 hK1 => awp_reg rfl <| AR.op (r := .ref 0 0 0) rfl (aop_box 2 [G.inquestref12_G.av g_0] rfl rfl rfl (.inl ⟨rfl, rfl⟩)) <| AR.op rfl (aop_move (.inr rfl) rfl) <| AR.nil <| hK1 _ (AWP.weak (Weak.e (fr' := [(1, .pp [i64 g_0.N, .sl (List.map u64 g_0.Rows)] 0)]) (H' := .empty) ⟨⟨_, rfl, .frzA rfl rfl rfl rfl (by simp)⟩, trivial⟩) ?_)
 refine awp_seqK fun K2 hK2 => awp_reg rfl <| AR.op (r := G.inquestref12_G.av g_0) rfl (aop_load_pp rfl rfl sz27 rfl) ?_
 obtain ⟨r66, hr66, h⟩ := Sh.bind_some' h
 refine AR.op (r := G.inquestref12_G.av r66) rfl (aop_call1 rfl rfl (by simp) (inquestref13_Close_ok hT hr66)) <| AR.op (r := .ref 0 0 0) rfl (aop_alloc 2 [.agg [i64 0, nilS]] rfl zr27 (by kernel_rfl) (.inl ⟨rfl, rfl⟩)) <| AR.keep [1, 11, 3] rfl <| AR.op rfl (aop_store (e' := G.inquestref12_G.av r66) rfl rfl rfl rfl rfl rfl sz27 rfl dt rfl) <| AR.nil <| hK2 _ (AWP.weak (Weak.e (fr' := [(1, .pp [i64 g_0.N, .sl (List.map u64 g_0.Rows)] 0), (3, .pp [i64 r66.N, .sl (List.map u64 r66.Rows)] 0)]) (H' := .empty) ⟨.k, ⟨_, rfl, .frzA rfl rfl rfl rfl (by simp)⟩, trivial⟩) ?_)
 refine awp_seqK fun K3 hK3 => awp_reg rfl <| AR.op rfl (aop_move (.inr rfl) rfl) <| AR.nil <| hK3 _ ?_
 refine awp_seqK fun K4 hK4 => awp_reg rfl <| AR.op rfl (aop_move (.inr rfl) rfl) <| AR.nil <| hK4 _ ?_
 refine awp_seqJ (fun (p : (List Int)) => (⟨[(4, .view 0 0 (List.map i64 p).length)], ⟨1, [(0, (1, List.map i64 p))], []⟩⟩ : St)) (fun (p : (List Int)) => G.inquestref14_Which_j1 p = some r) ?_ ?_
 ·rintro out130 h
  replace h : G.inquestref14_Which_j1 out130 = some r := h
  unfold G.inquestref14_Which_j1 at h
  refine awp_seqK fun K5 hK5 => awp_reg rfl <| AR.op rfl (aop_move (.inl rfl) rfl) <| AR.op rfl (aop_move (.inr rfl) rfl) <| AR.nil <| hK5 _ (AWP.weak (Weak.kt [2] rfl) ?_)
  refine awp_ret ?_
  obtain rfl := Option.some.inj h
  refine ⟨.inr rfl, .view 0 0 (List.map i64 out130).length, rfl, ?_⟩
  exact Weak.re [(0, 0)] [] rfl rfl rfl (.cons rfl rfl (.same (by simp)) dt trivial) ⟨⟨_, rfl, .view rfl⟩, trivial⟩
 ·intro K6 hK6
  refine awp_seqK fun K7 hK7 => awp_reg rfl <| AR.op rfl (aop_move (.inr rfl) rfl) <| AR.nil <| hK7 _ ?_
  refine awp_block <| awp_iter (fun (p : (List Int) × Int × Int) => G.inquestref14_Which_b1 g_0 r66 p.1 p.2.1 p.2.2) (fun (p : (List Int) × Int × Int) => (⟨[(1, .pp [i64 g_0.N, .sl (List.map u64 g_0.Rows)] 0), (3, .pp [i64 r66.N, .sl (List.map u64 r66.Rows)] 0), (4, .view 0 0 (List.map i64 p.1).length), (5, i64 p.2.1), (6, i64 p.2.2)], ⟨1, [(0, (1, List.map i64 p.1))], []⟩⟩ : St)) h (Weak.re [] [0] rfl rfl rfl (.fresh (by simp) dt trivial) ⟨.k, .k, ⟨_, rfl, .nil (by simp)⟩, .k, .k, trivial⟩) ?_
  ·skip
   rintro ⟨out173, many174, x175⟩ o1 h hx1
   replace h : G.inquestref14_Which_b1 g_0 r66 out173 many174 x175 = some o1 := h
   unfold G.inquestref14_Which_b1 at h
   refine awp_seqK fun K8 hK8 => awp_seqK fun K9 hK9 => awp_reg rfl <| AR.op rfl (aop_move (.inl rfl) rfl) <| AR.op rfl (aop_field_pp rfl rfl fd27_0 (by decide)) <| AR.op (r := i64 g_0.N) rfl (aop_load_pp rfl rfl sz3 rfl) <| AR.keep [1, 3, 4, 5, 6, 12, 14] rfl <| AR.op rfl (aop_lss rfl rfl rfl) ?_
   refine AR.nil <| hK9 _ (AWP.weak (Weak.kt [1, 3, 4, 5, 6, 15] rfl) ?_)
   refine awp_cond rfl (fun hb176 => ?_) (fun hb176 => ?_)
   ·replace h := Sh.if_t h hb176
    refine awp_skip <| hK8 _ (AWP.weak (Weak.kt [1, 3, 4, 5, 6] rfl) ?_)
    refine awp_seqJ (fun (p : Int × (List Int)) => (⟨[(1, .pp [i64 g_0.N, .sl (List.map u64 g_0.Rows)] 0), (3, .pp [i64 r66.N, .sl (List.map u64 r66.Rows)] 0), (5, i64 p.1), (6, i64 x175), (4, .view 0 0 (List.map i64 p.2).length)], ⟨1, [(0, (1, List.map i64 p.2))], []⟩⟩ : St)) (fun (p : Int × (List Int)) => G.inquestref14_Which_j2 x175 p.1 p.2 = some o1) ?_ ?_
    ·rintro ⟨many195, out196⟩ h
     replace h : G.inquestref14_Which_j2 x175 many195 out196 = some o1 := h
     unfold G.inquestref14_Which_j2 at h
     refine awp_reg rfl <| AR.op rfl (aop_move (.inl rfl) rfl) <| AR.op rfl (aop_add rfl rfl rfl rfl) <| AR.op rfl (aop_move (.inr rfl) rfl) <| AR.nil ?_
     replace h := Sh.next_eq h
     exact ⟨_, h, Weak.kt [1, 3, 4, 5, 6] rfl⟩
    ·intro K10 hK10
     refine awp_block <| awp_seqK fun K11 hK11 => awp_reg rfl <| AR.op rfl (aop_move (.inl rfl) rfl) <| AR.op rfl (aop_move (.inr rfl) rfl) <| AR.nil <| hK11 _ (AWP.weak (Weak.kt [1, 3, 4, 5, 6, 7] rfl) ?_)
     refine awp_seqJ (fun (p : Int) => (⟨[(1, .pp [i64 g_0.N, .sl (List.map u64 g_0.Rows)] 0), (3, .pp [i64 r66.N, .sl (List.map u64 r66.Rows)] 0), (4, .view 0 0 (List.map i64 out173).length), (5, i64 many174), (6, i64 x175), (7, i64 p)], ⟨1, [(0, (1, List.map i64 out173))], []⟩⟩ : St)) (fun (p : Int) => G.inquestref14_Which_j3 out173 many174 x175 p = some o1) ?_ ?_
     ·rintro n213 h
      replace h : G.inquestref14_Which_j3 out173 many174 x175 n213 = some o1 := h
      unfold G.inquestref14_Which_j3 at h
      refine awp_seqJ (fun (p : Int) => (⟨[(1, .pp [i64 g_0.N, .sl (List.map u64 g_0.Rows)] 0), (3, .pp [i64 r66.N, .sl (List.map u64 r66.Rows)] 0), (4, .view 0 0 (List.map i64 out173).length), (5, i64 p), (6, i64 x175), (7, i64 n213)], ⟨1, [(0, (1, List.map i64 out173))], []⟩⟩ : St)) (fun (p : Int) => G.inquestref14_Which_j4 out173 x175 n213 p = some o1) ?_ ?_
      ·rintro many214 h
       replace h : G.inquestref14_Which_j4 out173 x175 n213 many214 = some o1 := h
       unfold G.inquestref14_Which_j4 at h
       refine awp_reg rfl <| AR.op rfl (aop_move (.inl rfl) rfl) <| AR.op rfl (aop_move (.inl rfl) rfl) <| AR.op (r := .clip (List.map i64 [n213])) rfl (aop_buildSlice rfl (xo := [.tmp 39]) rfl rfl rfl (by simp [AV.solid]) (by simp [AV.flat]) el25 ze25 (by decide)) <| AR.keep [1, 3, 5, 6, 38, 40] rfl ?_
       obtain ⟨out215, hout215, h⟩ := Sh.bind_some' h
       refine AR.op (r := .view 1 0 (List.map i64 out215).length) rfl (t_app_view i64 out173 [n213] out215 hout215 rfl et25 (fun _ => rfl) rfl rfl rfl rfl rfl rfl rfl) <| AR.op rfl (aop_move (.inr rfl) rfl) <| AR.nil ?_
       exact hK10 (many214, out215) _ h (Weak.re [(0, 1)] [] rfl rfl rfl (.cons rfl rfl (.same (by simp)) dt trivial) ⟨.k, .k, .k, .k, ⟨_, rfl, .view rfl⟩, trivial⟩)
      ·intro K12 hK12
       refine awp_seqK fun K13 hK13 => awp_reg rfl <| AR.op rfl (aop_move (.inl rfl) rfl) <| AR.op rfl (aop_move (.inl rfl) rfl) <| AR.op (r := bl (decide (n213 = many174))) rfl (aop_eql rfl rfl rfl) <| AR.nil <| hK13 _ (AWP.weak (Weak.kt [1, 3, 4, 5, 6, 7, 35] rfl) ?_)
       refine awp_cond rfl (fun hb216 => ?_) (fun hb216 => ?_)
       ·replace h := Sh.if_t h hb216
        refine awp_reg rfl <| AR.op rfl (aop_move (.inl rfl) rfl) <| AR.op rfl (aop_add rfl rfl rfl rfl) <| AR.op rfl (aop_move (.inr rfl) rfl) <| AR.nil ?_
        exact hK12 (w64 (many174 + 1)) _ h (Weak.kt [1, 3, 4, 5, 6, 7] rfl)
       ·replace h := Sh.if_f h hb216
        refine awp_skip ?_
        exact hK12 many174 _ h (Weak.kt [1, 3, 4, 5, 6, 7] rfl)
     ·intro K14 hK14
      refine awp_seqK fun K15 hK15 => awp_reg rfl <| AR.op rfl (aop_move (.inr rfl) rfl) <| AR.nil <| hK15 _ ?_
      refine awp_block <| awp_iter (fun (p : Int × Int) => G.inquestref14_Which_b2 r66 out173 many174 x175 p.1 p.2) (fun (p : Int × Int) => (⟨[(1, .pp [i64 g_0.N, .sl (List.map u64 g_0.Rows)] 0), (3, .pp [i64 r66.N, .sl (List.map u64 r66.Rows)] 0), (4, .view 0 0 (List.map i64 out173).length), (5, i64 many174), (6, i64 x175), (7, i64 p.1), (8, i64 p.2)], ⟨1, [(0, (1, List.map i64 out173))], []⟩⟩ : St)) h (Weak.kt [1, 3, 4, 5, 6, 7, 8] rfl) ?_
      ·skip
       rintro ⟨n227, y228⟩ o2 h hx2
       replace h : G.inquestref14_Which_b2 r66 out173 many174 x175 n227 y228 = some o2 := h
       unfold G.inquestref14_Which_b2 at h
       refine awp_seqK fun K16 hK16 => awp_seqK fun K17 hK17 => awp_reg rfl <| AR.op rfl (aop_move (.inl rfl) rfl) <| AR.op rfl (aop_move (.inl rfl) rfl) <| AR.op rfl (aop_lss rfl rfl rfl) <| AR.nil <| hK17 _ (AWP.weak (Weak.kt [1, 3, 4, 5, 6, 7, 8, 21] rfl) ?_)
       refine awp_cond rfl (fun hb229 => ?_) (fun hb229 => ?_)
       ·replace h := Sh.if_t h hb229
        refine awp_skip <| hK16 _ (AWP.weak (Weak.kt [1, 3, 4, 5, 6, 7, 8] rfl) ?_)
        refine awp_seqJ (fun (p : Int) => (⟨[(1, .pp [i64 g_0.N, .sl (List.map u64 g_0.Rows)] 0), (3, .pp [i64 r66.N, .sl (List.map u64 r66.Rows)] 0), (4, .view 0 0 (List.map i64 out173).length), (5, i64 many174), (6, i64 x175), (8, i64 y228), (7, i64 p)], ⟨1, [(0, (1, List.map i64 out173))], []⟩⟩ : St)) (fun (p : Int) => G.inquestref14_Which_j5 y228 p = some o2) ?_ ?_
        ·rintro n233 h
         replace h : G.inquestref14_Which_j5 y228 n233 = some o2 := h
         unfold G.inquestref14_Which_j5 at h
         refine awp_reg rfl <| AR.op rfl (aop_move (.inl rfl) rfl) <| AR.op rfl (aop_add rfl rfl rfl rfl) <| AR.op rfl (aop_move (.inr rfl) rfl) <| AR.nil ?_
         replace h := Sh.next_eq h
         exact ⟨_, h, Weak.kt [1, 3, 4, 5, 6, 7, 8] rfl⟩
        ·intro K18 hK18
         refine awp_block <| awp_seqK fun K19 hK19 => awp_reg rfl <| AR.op (r := G.inquestref12_G.av r66) rfl (aop_load_pp rfl rfl sz27 rfl) <| AR.op rfl (aop_move (.inl rfl) rfl) <| AR.op rfl (aop_move (.inl rfl) rfl) <| AR.keep [1, 3, 4, 5, 6, 7, 8, 24, 25, 26] rfl ?_
         obtain ⟨r235, hr235, h⟩ := Sh.bind_some' h
         refine AR.op (r := bl r235) rfl (aop_call1 rfl rfl (by simp) (inquestref14_together_ok hT hr235)) <| AR.op rfl (aop_move (.inr rfl) rfl) <| AR.nil <| hK19 _ (AWP.weak (Weak.kt [1, 3, 4, 5, 6, 7, 8, 9] rfl) ?_)
         refine awp_seqK fun K20 hK20 => awp_reg rfl <| AR.op rfl (aop_move (.inl rfl) rfl) <| AR.nil <| hK20 _ (AWP.weak (Weak.kt [1, 3, 4, 5, 6, 7, 8, 28] rfl) ?_)
         refine awp_cond rfl (fun hb236 => ?_) (fun hb236 => ?_)
         ·replace h := Sh.if_t h hb236
          refine awp_reg rfl <| AR.op rfl (aop_move (.inl rfl) rfl) <| AR.op rfl (aop_move (.inl rfl) rfl) ?_
          obtain ⟨x237, hx237, h⟩ := Sh.bind_some' h
          obtain ⟨k238, hi238, hl238⟩ := Sh.idx_some hx237
          refine AR.op (r := .ref 0 k238 0) rfl (t_index_view i64 out173 hi238 hl238 rfl rfl rfl rfl rfl el25 rfl) <| AR.keep [1, 3, 4, 5, 6, 8, 31] rfl <| AR.op (r := i64 x237) rfl (t_load_el i64 out173 hl238 rfl rfl rfl sz3 rfl) <| AR.op rfl (aop_move (.inr rfl) rfl) <| AR.nil ?_
          exact hK18 x237 _ h (Weak.kt [1, 3, 4, 5, 6, 8, 7] rfl)
         ·replace h := Sh.if_f h hb236
          refine awp_skip ?_
          exact hK18 n227 _ h (Weak.kt [1, 3, 4, 5, 6, 8, 7] rfl)
       ·replace h := Sh.if_f h hb229
        refine awp_exit ?_
        replace h := Sh.exit_eq h hx2
        exact hK14 n227 _ h (Weak.kt [1, 3, 4, 5, 6, 7] rfl)
   ·replace h := Sh.if_f h hb176
    refine awp_exit ?_
    replace h := Sh.exit_eq h hx1
    exact hK6 out173 _ h (Weak.kt [4] rfl)
theorem inquestref14_Which_ok {W0 : World} (hT : Tab W0) {g_0 : G.inquestref12_G} {r : (List Int)} (h : G.inquestref14_Which g_0 = some r) : Fun1 Tryd.prog W0 28 [G.inquestref12_G.av g_0] (.sl (List.map i64 r)) :=
 (inquestref14_Which_own hT h).give (Weak.e ⟨⟨_, rfl, .lendAll rfl rfl (by simp)⟩, trivial⟩) (by simp)


theorem inquestref14_Comps_own {W0 : World} (hT : Tab W0) {g_0 : G.inquestref12_G} {r : (List (List Int))} (h : G.inquestref14_Comps g_0 = some r) : Fun2 Tryd.prog W0 27 [G.inquestref12_G.av g_0] (.view 0 0 (List.map (slA i64) r).length) ⟨1, [(0, (1, List.map (slA i64) r))], []⟩ := by
 refine fun2_of_awp Tryd.func27 rfl (by kernel_rfl) Tryd.ntmps27 (by simp) ?_
 unfold G.inquestref14_Comps at h
 show AWP _ _ _ _ ⟨[(0, G.inquestref12_G.av g_0)], .empty⟩ _
 refine awp_seqK fun K1 hK1 => awp_reg rfl <| AR.op (r := .ref 0 0 0) rfl (aop_box 2 [G.inquestref12_G.av g_0] rfl rfl rfl (.inl ⟨rfl, rfl⟩)) <| AR.op rfl (aop_move (.inr rfl) rfl) <| AR.nil <| hK1 _ (AWP.weak (Weak.e (fr' := [(1, .pp [i64 g_0.N, .sl (List.map u64 g_0.Rows)] 0)]) (H' := .empty) ⟨⟨_, rfl, .frzA rfl rfl rfl rfl (by simp)⟩, trivial⟩) ?_)
 refine awp_seqK fun K2 hK2 => awp_reg rfl <| AR.op (r := G.inquestref12_G.av g_0) rfl (aop_load_pp rfl rfl sz27 rfl) ?_
 obtain ⟨r46, hr46, h⟩ := Sh.bind_some' h
 refine AR.op (r := .sl (List.map i64 r46)) rfl (aop_call1 rfl rfl (by simp) (inquestref14_Which_ok hT hr46)) <| AR.op rfl (aop_move (.inr rfl) rfl) <| AR.nil <| hK2 _ (AWP.weak (Weak.kt [1, 3] rfl) ?_)
 refine awp_seqK fun K3 hK3 => awp_reg rfl <| AR.op rfl (aop_move (.inr rfl) rfl) <| AR.nil <| hK3 _ ?_
 refine awp_seqJ (fun (p : (List (List Int))) => (⟨[(4, .view 0 0 (List.map (slA i64) p).length)], ⟨1, [(0, (1, List.map (slA i64) p))], []⟩⟩ : St)) (fun (p : (List (List Int))) => G.inquestref14_Comps_j1 p = some r) ?_ ?_
 ·rintro out90 h
  replace h : G.inquestref14_Comps_j1 out90 = some r := h
  unfold G.inquestref14_Comps_j1 at h
  refine awp_seqK fun K4 hK4 => awp_reg rfl <| AR.op rfl (aop_move (.inl rfl) rfl) <| AR.op rfl (aop_move (.inr rfl) rfl) <| AR.nil <| hK4 _ (AWP.weak (Weak.kt [2] rfl) ?_)
  refine awp_ret ?_
  obtain rfl := Option.some.inj h
  refine ⟨.inr rfl, .view 0 0 (List.map (slA i64) out90).length, rfl, ?_⟩
  exact Weak.re [(0, 0)] [] rfl rfl rfl (.cons rfl rfl (.same (by simp)) dt trivial) ⟨⟨_, rfl, .view rfl⟩, trivial⟩
 ·intro K5 hK5
  refine awp_seqK fun K6 hK6 => awp_reg rfl <| AR.op rfl (aop_move (.inr rfl) rfl) <| AR.nil <| hK6 _ ?_
  refine awp_block <| awp_iter (fun (p : (List (List Int)) × Int) => G.inquestref14_Comps_b1 g_0 r46 p.1 p.2) (fun (p : (List (List Int)) × Int) => (⟨[(1, .pp [i64 g_0.N, .sl (List.map u64 g_0.Rows)] 0), (3, .sl (List.map i64 r46)), (4, .view 0 0 (List.map (slA i64) p.1).length), (5, i64 p.2)], famH [(0, (1, famV i64 1 p.1))] i64 1 1 p.1⟩ : St)) h (Weak.re [] [0] rfl rfl rfl (.fresh (by simp) dt trivial) ⟨.k, ⟨.sl (List.map i64 r46), rfl, .sm⟩, ⟨_, rfl, .nil (by simp)⟩, .k, trivial⟩) ?_
  ·skip
   rintro ⟨out119, x120⟩ o1 h hx1
   replace h : G.inquestref14_Comps_b1 g_0 r46 out119 x120 = some o1 := h
   unfold G.inquestref14_Comps_b1 at h
   refine awp_seqK fun K7 hK7 => awp_seqK fun K8 hK8 => awp_reg rfl <| AR.op rfl (aop_move (.inl rfl) rfl) <| AR.op rfl (aop_field_pp rfl rfl fd27_0 (by decide)) <| AR.op (r := i64 g_0.N) rfl (aop_load_pp rfl rfl sz3 rfl) <| AR.keep [1, 3, 4, 5, 8, 10] rfl <| AR.op rfl (aop_lss rfl rfl rfl) ?_
   refine AR.nil <| hK8 _ (AWP.weak (Weak.kt [1, 3, 4, 5, 11] rfl) ?_)
   refine awp_cond rfl (fun hb121 => ?_) (fun hb121 => ?_)
   ·replace h := Sh.if_t h hb121
    refine awp_skip <| hK7 _ (AWP.weak (Weak.kt [1, 3, 4, 5] rfl) ?_)
    refine awp_seqK fun K9 hK9 => awp_block <| awp_seqJ (fun (p : (List (List Int))) => (⟨[(1, .pp [i64 g_0.N, .sl (List.map u64 g_0.Rows)] 0), (3, .sl (List.map i64 r46)), (5, i64 x120), (4, .view 0 0 (List.map (slA i64) p).length)], famH [(0, (1, famV i64 1 p))] i64 1 1 p⟩ : St)) (fun (p : (List (List Int))) => G.inquestref14_Comps_j2 r46 x120 p = some o1) ?_ ?_
    ·rintro out138 h
     replace h : G.inquestref14_Comps_j2 r46 x120 out138 = some o1 := h
     unfold G.inquestref14_Comps_j2 at h
     refine awp_any [(true, false), (true, false), (true, false), (true, false), (true, false), (true, false), (true, false), (true, false), (true, false), (true, false), (false, false), (false, false), (true, false), (true, false), (false, true), (false, false), (false, true)] (by kernel_rfl) (by kernel_rfl) rfl ?_
     refine ARH.dry rfl (fun _ => aop_move (.inl rfl) rfl) <| ARH.dry rfl (fun _ => aop_move (.inl rfl) rfl) <| ARH.dry rfl (fun _ => aop_move (.inl rfl) rfl) <| ARH.keep [1, 3, 5, 4, 24, 25, 26] rfl ?_
     obtain ⟨x139, hx139, h⟩ := Sh.bind_some' h
     obtain ⟨k140, hi140, hl140⟩ := Sh.idx_some hx139
     refine ARH.dry rfl (fun _ => t_index_sl i64 r46 hi140 hl140 rfl rfl rfl el25 rfl) <| ARH.dry (r := i64 x139) rfl (fun _ => aop_load_pp rfl rfl sz3 rfl) <| ARH.dry rfl (fun _ => aop_move (.inl rfl) rfl) <| ARH.keep [1, 3, 5, 4, 24, 28, 29] rfl <| ARH.dry rfl (fun _ => aop_move (.inl rfl) rfl) <| ARH.dry rfl (fun _ => aop_move (.inl rfl) rfl) ?_
     obtain ⟨x141, hx141, h⟩ := Sh.bind_some' h
     obtain ⟨k142, hi142, hl142⟩ := Sh.idx_some hx141
     refine ARH.dry rfl (fun _ => t_index_sl i64 r46 hi142 hl142 rfl rfl rfl el25 rfl) <| ARH.keep [1, 3, 5, 4, 24, 28, 29, 32] rfl <| ARH.dry (r := i64 x141) rfl (fun _ => aop_load_pp rfl rfl sz3 rfl) ?_
     obtain ⟨x143, hx143, h⟩ := Sh.bind_some' h
     obtain ⟨k144, hi144, hl144⟩ := Sh.idx_some hx143
     refine ARH.op (r := .ref 0 k144 0) rfl rfl (t_index_fam i64 1 out138 hi144 hl144 rfl rfl rfl rfl rfl el42) <| ARH.op (r := .view (1 + k144) 0 (List.map i64 x143).length) rfl rfl (t_load_fam i64 1 out138 hl144 rfl rfl rfl sz25 rfl) <| ARH.keep [1, 3, 5, 4, 24, 28, 35] rfl <| ARH.dry rfl (fun _ => aop_move (.inl rfl) rfl) <| ARH.dry (r := .clip (List.map i64 [x120])) rfl (fun _ => aop_buildSlice rfl (xo := [.tmp 36]) rfl rfl rfl (by simp [AV.solid]) (by simp [AV.flat]) el25 ze25 (by decide)) ?_
     obtain ⟨l145, hl145, h⟩ := Sh.bind_some' h
     refine ARH.loud (r := .view (1 + out138.length) 0 (List.map i64 l145).length) rfl rfl (t_app_view i64 x143 [x120] l145 hl145 rfl et25 (fun _ => rfl) rfl rfl rfl (famH_get hl144) (famH_sz hl144) rfl rfl) <| ARH.keep [1, 3, 5, 4, 24, 28, 38] rfl ?_
     obtain ⟨x146, hx146, h⟩ := Sh.bind_some' h
     obtain ⟨k147, hi147, hl147⟩ := Sh.idx_some hx146
     obtain rfl := Int.ofNat_inj.1 (hi147.symm.trans ((Option.some.inj (hx139.symm.trans hx141)).trans hi144))
     refine ARH.op (r := .ref 0 _ 0) rfl rfl (t_index_fam i64 1 out138 hi147 hl147 rfl rfl rfl (famH_appG rfl) rfl el42) <| ARH.loud rfl rfl (t_store_fam i64 1 out138 hl147 rfl rfl rfl (famH_appG rfl) sz25) <| ARH.nil <| hK9 _ (AWP.weak (Weak.appRow (fr' := [(1, .pp [i64 g_0.N, .sl (List.map u64 g_0.Rows)] 0), (3, .sl (List.map i64 r46)), (5, i64 x120), (4, .view 0 0 (List.map (slA i64) (Sh.set out138 x139 l145)).length)]) (F' := [(0, (1, famV i64 1 (Sh.set out138 x139 l145)))]) [(0, 0)] (Sh.set out138 x139 l145) (by simp [Sh.set, hi147]) (by simp) hl147 rfl (fun H g nw hg hlow es he hs => ⟨.cons (hg 0 (by decide)) he hs (by omega) trivial, ⟨.k, ⟨.sl (List.map i64 r46), rfl, .sm⟩, .k, ⟨_, rfl, .viewL (hg 0 (by decide)) (by simp [])⟩, trivial⟩⟩)) ?_)
     refine awp_reg rfl <| AR.op rfl (aop_move (.inl rfl) rfl) <| AR.op rfl (aop_add rfl rfl rfl rfl) <| AR.op rfl (aop_move (.inr rfl) rfl) <| AR.nil ?_
     replace h := Sh.next_eq h
     exact ⟨_, h, Weak.kt [1, 3, 4, 5] rfl⟩
    ·intro K10 hK10
     refine awp_seqK fun K11 hK11 => awp_reg rfl <| AR.op rfl (aop_move (.inl rfl) rfl) <| AR.op rfl (aop_move (.inl rfl) rfl) ?_
     obtain ⟨x150, hx150, h⟩ := Sh.bind_some' h
     obtain ⟨k151, hi151, hl151⟩ := Sh.idx_some hx150
     refine AR.op rfl (t_index_sl i64 r46 hi151 hl151 rfl rfl rfl el25 rfl) <| AR.keep [1, 3, 4, 5, 16] rfl <| AR.op (r := i64 x150) rfl (aop_load_pp rfl rfl sz3 rfl) <| AR.op rfl (aop_move (.inl rfl) rfl) <| AR.op (r := i64 (Sh.len out119)) rfl (t_len_view (slA i64) out119 rfl rfl rfl rfl el42) <| AR.keep [1, 3, 4, 5, 17, 19] rfl <| AR.op (r := bl (decide (x150 = (Sh.len out119)))) rfl (aop_eql rfl rfl rfl) <| AR.nil ?_
     refine hK11 _ (AWP.weak (Weak.kt [1, 3, 4, 5, 20] rfl) ?_)
     refine awp_cond rfl (fun hb152 => ?_) (fun hb152 => ?_)
     ·replace h := Sh.if_t h hb152
      refine awp_reg rfl <| AR.op rfl (aop_move (.inl rfl) rfl) <| AR.op (r := .clip [nilS]) rfl (aop_buildSlice (xs := [nilS]) rfl (xo := [.const (.slice none 0 0)]) rfl rfl rfl (by simp [AV.solid]) (by simp [AV.flat]) el42 ze42 (by decide)) ?_
      obtain ⟨out153, hout153, h⟩ := Sh.bind_some' h
      refine AR.op (r := .view (1 + out119.length) 0 (List.map (slA i64) out153).length) rfl (t_app_new i64 1 out119 out153 hout153 rfl et42 rfl rfl rfl rfl rfl rfl) <| AR.keep [1, 3, 5, 23] rfl <| AR.op rfl (aop_move (.inr rfl) rfl) <| AR.nil ?_
      exact hK10 out153 _ h (Weak.newRow [(0, 1 + out119.length)] out153 (Sh.app_some hout153).2 (by simp) rfl (fun H g nw hg hlow es he hs => ⟨.cons (hg 0 (by decide)) he hs (by omega) trivial, ⟨.k, ⟨.sl (List.map i64 r46), rfl, .sm⟩, .k, ⟨_, rfl, .view (hg 0 (by decide))⟩, trivial⟩⟩))
     ·replace h := Sh.if_f h hb152
      refine awp_skip ?_
      exact hK10 out119 _ h (Weak.kt [1, 3, 5, 4] rfl)
   ·replace h := Sh.if_f h hb121
    refine awp_exit ?_
    replace h := Sh.exit_eq h hx1
    exact hK5 out119 _ h (Weak.re [(0, 0)] [] rfl rfl rfl (.cons rfl rfl (seeL_give (by simp)) dt trivial) ⟨⟨_, rfl, .view rfl⟩, trivial⟩)
theorem inquestref14_Comps_ok {W0 : World} (hT : Tab W0) {g_0 : G.inquestref12_G} {r : (List (List Int))} (h : G.inquestref14_Comps g_0 = some r) : Fun1 Tryd.prog W0 27 [G.inquestref12_G.av g_0] (.sl (List.map (slA i64) r)) :=
 (inquestref14_Comps_own hT h).give (Weak.e ⟨⟨_, rfl, .lendAll rfl rfl (by simp)⟩, trivial⟩) (by simp)


theorem inquestref14_Inner_own {W0 : World} (hT : Tab W0) {g_0 : G.inquestref12_G} {r : (List Int)} (h : G.inquestref14_Inner g_0 = some r) : Fun2 Tryd.prog W0 29 [G.inquestref12_G.av g_0] (.view 0 0 (List.map i64 r).length) ⟨1, [(0, (1, List.map i64 r))], []⟩ := by
 refine fun2_of_awp Tryd.func29 rfl (by kernel_rfl) Tryd.ntmps29 (by simp) ?_
 unfold G.inquestref14_Inner at h
 show AWP _ _ _ _ ⟨[(0, G.inquestref12_G.av g_0)], .empty⟩ _
 refine awp_seqK fun K1 hK1 => awp_reg rfl <| AR.op (r := .ref 0 0 0) rfl (aop_box 2 [G.inquestref12_G.av g_0] rfl rfl rfl (.inl ⟨rfl, rfl⟩)) <| AR.op rfl (aop_move (.inr rfl) rfl) <| AR.nil <| hK1 _ (AWP.weak (Weak.e (fr' := [(1, .pp [i64 g_0.N, .sl (List.map u64 g_0.Rows)] 0)]) (H' := .empty) ⟨⟨_, rfl, .frzA rfl rfl rfl rfl (by simp)⟩, trivial⟩) ?_)
 refine awp_seqK fun K2 hK2 => awp_reg rfl <| AR.op (r := G.inquestref12_G.av g_0) rfl (aop_load_pp rfl rfl sz27 rfl) ?_
 obtain ⟨r16, hr16, h⟩ := Sh.bind_some' h
 refine AR.op (r := G.inquestref12_G.av r16) rfl (aop_call1 rfl rfl (by simp) (inquestref13_Close_ok hT hr16)) <| AR.op (r := .ref 0 0 0) rfl (aop_alloc 2 [.agg [i64 0, nilS]] rfl zr27 (by kernel_rfl) (.inl ⟨rfl, rfl⟩)) <| AR.keep [1, 8, 3] rfl <| AR.op rfl (aop_store (e' := G.inquestref12_G.av r16) rfl rfl rfl rfl rfl rfl sz27 rfl dt rfl) <| AR.nil <| hK2 _ (AWP.weak (Weak.e (fr' := [(1, .pp [i64 g_0.N, .sl (List.map u64 g_0.Rows)] 0), (3, .pp [i64 r16.N, .sl (List.map u64 r16.Rows)] 0)]) (H' := .empty) ⟨.k, ⟨_, rfl, .frzA rfl rfl rfl rfl (by simp)⟩, trivial⟩) ?_)
 refine awp_seqK fun K3 hK3 => awp_reg rfl <| AR.op rfl (aop_move (.inr rfl) rfl) <| AR.nil <| hK3 _ ?_
 refine awp_seqJ (fun (p : (List Int)) => (⟨[(4, .view 0 0 (List.map i64 p).length)], ⟨1, [(0, (1, List.map i64 p))], []⟩⟩ : St)) (fun (p : (List Int)) => G.inquestref14_Inner_j1 p = some r) ?_ ?_
 ·rintro out30 h
  replace h : G.inquestref14_Inner_j1 out30 = some r := h
  unfold G.inquestref14_Inner_j1 at h
  refine awp_seqK fun K4 hK4 => awp_reg rfl <| AR.op rfl (aop_move (.inl rfl) rfl) <| AR.op rfl (aop_move (.inr rfl) rfl) <| AR.nil <| hK4 _ (AWP.weak (Weak.kt [2] rfl) ?_)
  refine awp_ret ?_
  obtain rfl := Option.some.inj h
  refine ⟨.inr rfl, .view 0 0 (List.map i64 out30).length, rfl, ?_⟩
  exact Weak.re [(0, 0)] [] rfl rfl rfl (.cons rfl rfl (.same (by simp)) dt trivial) ⟨⟨_, rfl, .view rfl⟩, trivial⟩
 ·intro K5 hK5
  refine awp_seqK fun K6 hK6 => awp_reg rfl <| AR.op rfl (aop_move (.inr rfl) rfl) <| AR.nil <| hK6 _ ?_
  refine awp_block <| awp_iter (fun (p : (List Int) × Int) => G.inquestref14_Inner_b1 g_0 r16 p.1 p.2) (fun (p : (List Int) × Int) => (⟨[(1, .pp [i64 g_0.N, .sl (List.map u64 g_0.Rows)] 0), (3, .pp [i64 r16.N, .sl (List.map u64 r16.Rows)] 0), (4, .view 0 0 (List.map i64 p.1).length), (5, i64 p.2)], ⟨1, [(0, (1, List.map i64 p.1))], []⟩⟩ : St)) h (Weak.re [] [0] rfl rfl rfl (.fresh (by simp) dt trivial) ⟨.k, .k, ⟨_, rfl, .nil (by simp)⟩, .k, trivial⟩) ?_
  ·skip
   rintro ⟨out39, x40⟩ o1 h hx1
   replace h : G.inquestref14_Inner_b1 g_0 r16 out39 x40 = some o1 := h
   unfold G.inquestref14_Inner_b1 at h
   refine awp_seqK fun K7 hK7 => awp_seqK fun K8 hK8 => awp_reg rfl <| AR.op rfl (aop_move (.inl rfl) rfl) <| AR.op rfl (aop_field_pp rfl rfl fd27_0 (by decide)) <| AR.op (r := i64 g_0.N) rfl (aop_load_pp rfl rfl sz3 rfl) <| AR.keep [1, 3, 4, 5, 9, 11] rfl <| AR.op rfl (aop_lss rfl rfl rfl) ?_
   refine AR.nil <| hK8 _ (AWP.weak (Weak.kt [1, 3, 4, 5, 12] rfl) ?_)
   refine awp_cond rfl (fun hb41 => ?_) (fun hb41 => ?_)
   ·replace h := Sh.if_t h hb41
    refine awp_skip <| hK7 _ (AWP.weak (Weak.kt [1, 3, 4, 5] rfl) ?_)
    refine awp_seqJ (fun (p : (List Int)) => (⟨[(1, .pp [i64 g_0.N, .sl (List.map u64 g_0.Rows)] 0), (3, .pp [i64 r16.N, .sl (List.map u64 r16.Rows)] 0), (5, i64 x40), (4, .view 0 0 (List.map i64 p).length)], ⟨1, [(0, (1, List.map i64 p))], []⟩⟩ : St)) (fun (p : (List Int)) => G.inquestref14_Inner_j2 x40 p = some o1) ?_ ?_
    ·rintro out44 h
     replace h : G.inquestref14_Inner_j2 x40 out44 = some o1 := h
     unfold G.inquestref14_Inner_j2 at h
     refine awp_reg rfl <| AR.op rfl (aop_move (.inl rfl) rfl) <| AR.op rfl (aop_add rfl rfl rfl rfl) <| AR.op rfl (aop_move (.inr rfl) rfl) <| AR.nil ?_
     replace h := Sh.next_eq h
     exact ⟨_, h, Weak.kt [1, 3, 4, 5] rfl⟩
    ·intro K9 hK9
     refine awp_block <| awp_seqK fun K10 hK10 => awp_reg rfl <| AR.op (r := G.inquestref12_G.av r16) rfl (aop_load_pp rfl rfl sz27 rfl) <| AR.op rfl (aop_move (.inl rfl) rfl) <| AR.op rfl (aop_move (.inl rfl) rfl) <| AR.keep [1, 3, 4, 5, 15, 16, 17] rfl ?_
     obtain ⟨r46, hr46, h⟩ := Sh.bind_some' h
     refine AR.op (r := bl r46) rfl (aop_call1 rfl rfl (by simp) (inquestref12_Has_ok hT hr46)) <| AR.op rfl (aop_move (.inr rfl) rfl) <| AR.nil <| hK10 _ (AWP.weak (Weak.kt [1, 3, 4, 5, 6] rfl) ?_)
     refine awp_seqK fun K11 hK11 => awp_reg rfl <| AR.op rfl (aop_move (.inl rfl) rfl) <| AR.nil <| hK11 _ (AWP.weak (Weak.kt [1, 3, 4, 5, 19] rfl) ?_)
     refine awp_cond rfl (fun hb47 => ?_) (fun hb47 => ?_)
     ·replace h := Sh.if_t h hb47
      refine awp_reg rfl <| AR.op rfl (aop_move (.inl rfl) rfl) <| AR.op rfl (aop_move (.inl rfl) rfl) <| AR.op (r := .clip (List.map i64 [x40])) rfl (aop_buildSlice rfl (xo := [.tmp 21]) rfl rfl rfl (by simp [AV.solid]) (by simp [AV.flat]) el25 ze25 (by decide)) <| AR.keep [1, 3, 5, 20, 22] rfl ?_
      obtain ⟨out48, hout48, h⟩ := Sh.bind_some' h
      refine AR.op (r := .view 1 0 (List.map i64 out48).length) rfl (t_app_view i64 out39 [x40] out48 hout48 rfl et25 (fun _ => rfl) rfl rfl rfl rfl rfl rfl rfl) <| AR.op rfl (aop_move (.inr rfl) rfl) <| AR.nil ?_
      exact hK9 out48 _ h (Weak.re [(0, 1)] [] rfl rfl rfl (.cons rfl rfl (.same (by simp)) dt trivial) ⟨.k, .k, .k, ⟨_, rfl, .view rfl⟩, trivial⟩)
     ·replace h := Sh.if_f h hb47
      refine awp_skip ?_
      exact hK9 out39 _ h (Weak.kt [1, 3, 5, 4] rfl)
   ·replace h := Sh.if_f h hb41
    refine awp_exit ?_
    replace h := Sh.exit_eq h hx1
    exact hK5 out39 _ h (Weak.kt [4] rfl)
theorem inquestref14_Inner_ok {W0 : World} (hT : Tab W0) {g_0 : G.inquestref12_G} {r : (List Int)} (h : G.inquestref14_Inner g_0 = some r) : Fun1 Tryd.prog W0 29 [G.inquestref12_G.av g_0] (.sl (List.map i64 r)) :=
 (inquestref14_Inner_own hT h).give (Weak.e ⟨⟨_, rfl, .lendAll rfl rfl (by simp)⟩, trivial⟩) (by simp)

end Wk
