/- That the functions of a package do what their plain functions say. -/
import Derived.Test.YtmmeihaoldinnaaDoorSh
import Derived.Test.YtmmeihaoldinnaaDoorWkGFacts
import Derived.Test.YtmmeihaoldinnaaDoorWkGinquestref10
import Derived.Test.YtmmeihaoldinnaaDoorWkGinquestref12
open Go Go.Av Go.Proofs
set_option linter.unusedVariables false
namespace Wk
set_option maxHeartbeats 8000000 in
theorem inquestref13_Close_ok0 {W0 : World} (hT : Tab W0) {g_0 : G.inquestref12_G} {r : G.inquestref12_G} (h : G.inquestref13_Close g_0 = some r) : Fun2 Tryd.prog W0 35 [G.inquestref12_G.av g_0] (G.inquestref12_G.av r) .empty := by
  refine fun2_of_awp Tryd.func35 rfl (by kernel_rfl) Tryd.ntmps35 (by simp) ?_
  unfold G.inquestref13_Close at h
  show AWP _ _ _ _ ⟨[(0, G.inquestref12_G.av g_0)], .empty⟩ _
  refine awp_seqK fun K1 hK1 => ?_
  refine awp_reg rfl ?_
  refine AR.op (r := .ref 0 0 0) rfl (aop_box 2 [G.inquestref12_G.av g_0] rfl rfl rfl (.inl ⟨rfl, rfl⟩)) ?_
  refine AR.op (r := .ref 1 0 0) rfl (aop_alloc 2 [.agg [i64 0, nilS]] rfl zr26 (by kernel_rfl) (.inl ⟨rfl, rfl⟩)) ?_
  refine AR.nil ?_
  refine hK1 _ (AWP.weak (Weak.re (fr' := [(1, .ref 0 0 0), (2, .ref 1 0 0)]) (H' := ⟨2, [(0, (2, [G.inquestref12_G.av g_0])), (1, (2, [.agg [i64 0, nilS]]))]⟩) [(0, 0), (1, 1)] [] rfl rfl rfl (.cons rfl rfl (.one (.same _ (by simp)) rfl) (of_decide_eq_true rfl) (.cons rfl rfl (.one (.same _ (by simp)) rfl) (of_decide_eq_true rfl) (trivial))) ⟨⟨_, rfl, .ref rfl⟩, ⟨_, rfl, .ref rfl⟩, trivial⟩) ?_)
  clear hK1 K1
  refine awp_seqK fun K2 hK2 => ?_
  refine awp_reg rfl ?_
  refine AR.op (r := G.inquestref12_G.av g_0) rfl (aop_load_ref rfl rfl rfl rfl sz26 rfl) ?_
  refine AR.op (r := .ref 2 0 0) rfl (aop_alloc 2 [.agg [i64 0, nilS]] rfl zr26 (by kernel_rfl) (.inl ⟨rfl, rfl⟩)) ?_
  refine AR.op rfl (aop_store (e' := G.inquestref12_G.av g_0) rfl rfl rfl rfl rfl rfl sz26 rfl (of_decide_eq_true rfl) rfl) ?_
  refine AR.nil ?_
  refine hK2 _ (AWP.weak (Weak.re (fr' := [(1, .ref 0 0 0), (2, .ref 1 0 0), (3, .ref 2 0 0)]) (H' := ⟨3, [(0, (2, [G.inquestref12_G.av g_0])), (1, (2, [.agg [i64 0, nilS]])), (2, (2, [G.inquestref12_G.av g_0]))]⟩) [(0, 0), (1, 1), (2, 2)] [] rfl rfl rfl (.cons rfl rfl (.one (.same _ (by simp)) rfl) (of_decide_eq_true rfl) (.cons rfl rfl (.one (.same _ (by simp)) rfl) (of_decide_eq_true rfl) (.cons rfl rfl (.one (.same _ (by simp)) rfl) (of_decide_eq_true rfl) (trivial)))) ⟨⟨_, rfl, .ref rfl⟩, ⟨_, rfl, .ref rfl⟩, ⟨_, rfl, .ref rfl⟩, trivial⟩) ?_)
  clear hK2 K2
  refine awp_seqJ (fun (p : G.inquestref12_G) => (⟨[(2, .ref 0 0 0), (3, .ref 1 0 0)], ⟨2, [(0, (2, [.agg [i64 0, nilS]])), (1, (2, [G.inquestref12_G.av p]))]⟩⟩ : St)) (fun (p : G.inquestref12_G) => G.inquestref13_Close_j1 p = some r) ?_ ?_
  · rintro v763 h
    replace h : G.inquestref13_Close_j1 v763 = some r := h
    unfold G.inquestref13_Close_j1 at h
    show AWP _ _ _ _ ⟨[(2, .ref 0 0 0), (3, .ref 1 0 0)], ⟨2, [(0, (2, [.agg [i64 0, nilS]])), (1, (2, [G.inquestref12_G.av v763]))]⟩⟩ _
    refine awp_seqK fun K3 hK3 => ?_
    refine awp_reg rfl ?_
    refine AR.op (r := G.inquestref12_G.av v763) rfl (aop_load_ref rfl rfl rfl rfl sz26 rfl) ?_
    refine AR.op rfl (aop_store (e' := G.inquestref12_G.av v763) rfl rfl rfl rfl rfl rfl sz26 rfl (of_decide_eq_true rfl) rfl) ?_
    refine AR.nil ?_
    refine hK3 _ (AWP.weak (Weak.re (fr' := [(2, .ref 0 0 0)]) (H' := ⟨1, [(0, (2, [G.inquestref12_G.av v763]))]⟩) [(0, 0)] [] rfl rfl rfl (.cons rfl rfl (.one (.same _ (by simp)) rfl) (of_decide_eq_true rfl) (trivial)) ⟨⟨_, rfl, .ref rfl⟩, trivial⟩) ?_)
    clear hK3 K3
    refine awp_ret ?_
    obtain rfl := Option.some.inj h
    refine ⟨.inr rfl, G.inquestref12_G.av v763, rfl, ?_⟩
    exact Weak.re [] [] rfl rfl rfl (trivial) ⟨⟨G.inquestref12_G.av v763, rfl, .same _ (by simp)⟩, trivial⟩
  · intro K4 hK4
    refine awp_seqK fun K5 hK5 => ?_
    refine awp_reg rfl ?_
    refine AR.op (r := i64 0) rfl (aop_move (.inr rfl) rfl) ?_
    refine AR.nil ?_
    refine hK5 _ ?_
    clear hK5 K5
    refine awp_block ?_
    refine awp_iter (fun (p : Int × (List (BitVec 64)) × Int) => G.inquestref13_Close_b1 g_0 p.1 p.2.1 p.2.2) (fun (p : Int × (List (BitVec 64)) × Int) => (⟨[(1, .ref 0 0 0), (2, .ref 1 0 0), (3, .ref 2 0 0), (4, i64 p.2.2)], ⟨3, [(0, (2, [G.inquestref12_G.av g_0])), (1, (2, [.agg [i64 0, nilS]])), (2, (2, [.agg [i64 p.1, .sl (List.map u64 p.2.1)]]))]⟩⟩ : St)) h (Weak.re (fr' := [(1, .ref 0 0 0), (2, .ref 1 0 0), (3, .ref 2 0 0), (4, i64 0)]) (H' := ⟨3, [(0, (2, [G.inquestref12_G.av g_0])), (1, (2, [.agg [i64 0, nilS]])), (2, (2, [.agg [i64 g_0.N, .sl (List.map u64 g_0.Rows)]]))]⟩) [(0, 0), (1, 1), (2, 2)] [] rfl rfl rfl (.cons rfl rfl (.one (.same _ (by simp)) rfl) (of_decide_eq_true rfl) (.cons rfl rfl (.one (.same _ (by simp)) rfl) (of_decide_eq_true rfl) (.cons rfl rfl (.one (.same _ (by simp)) rfl) (of_decide_eq_true rfl) (trivial)))) ⟨⟨_, rfl, .ref rfl⟩, ⟨_, rfl, .ref rfl⟩, ⟨_, rfl, .ref rfl⟩, ⟨_, rfl, .same _ (by simp)⟩, trivial⟩) ?_
    · skip
      rintro ⟨cN1017, cRows1018, k1019⟩ o1 h hx1
      replace h : G.inquestref13_Close_b1 g_0 cN1017 cRows1018 k1019 = some o1 := h
      unfold G.inquestref13_Close_b1 at h
      show AWP _ _ _ _ ⟨[(1, .ref 0 0 0), (2, .ref 1 0 0), (3, .ref 2 0 0), (4, i64 k1019)], ⟨3, [(0, (2, [G.inquestref12_G.av g_0])), (1, (2, [.agg [i64 0, nilS]])), (2, (2, [.agg [i64 cN1017, .sl (List.map u64 cRows1018)]]))]⟩⟩ _
      refine awp_seqK fun K6 hK6 => ?_
      refine awp_seqK fun K7 hK7 => ?_
      refine awp_reg rfl ?_
      refine AR.op (r := i64 k1019) rfl (aop_move (.inl rfl) rfl) ?_
      refine AR.op rfl (aop_field_ref rfl rfl rfl fd26_0 (by decide)) ?_
      refine AR.op (r := i64 g_0.N) rfl (aop_load_ref rfl rfl rfl rfl sz3 rfl) ?_
      refine AR.drop (frx := [(1, _), (2, _), (3, _), (4, _), (12, _), (14, _)]) ⟨rfl, rfl, rfl, rfl, rfl, rfl, trivial⟩ ?_
      refine AR.op (r := bl (decide (k1019 < g_0.N))) rfl (aop_lss rfl rfl rfl) ?_
      refine AR.nil ?_
      refine hK7 _ (AWP.weak (Weak.re (fr' := [(1, .ref 0 0 0), (2, .ref 1 0 0), (3, .ref 2 0 0), (4, i64 k1019), (15, bl (decide (k1019 < g_0.N)))]) (H' := ⟨3, [(0, (2, [G.inquestref12_G.av g_0])), (1, (2, [.agg [i64 0, nilS]])), (2, (2, [.agg [i64 cN1017, .sl (List.map u64 cRows1018)]]))]⟩) [(0, 0), (1, 1), (2, 2)] [] rfl rfl rfl (.cons rfl rfl (.one (.same _ (by simp)) rfl) (of_decide_eq_true rfl) (.cons rfl rfl (.one (.same _ (by simp)) rfl) (of_decide_eq_true rfl) (.cons rfl rfl (.one (.same _ (by simp)) rfl) (of_decide_eq_true rfl) (trivial)))) ⟨⟨_, rfl, .ref rfl⟩, ⟨_, rfl, .ref rfl⟩, ⟨_, rfl, .ref rfl⟩, ⟨_, rfl, .same _ (by simp)⟩, ⟨_, rfl, .same _ (by simp)⟩, trivial⟩) ?_)
      clear hK7 K7
      refine awp_cond rfl (fun hb1020 => ?_) (fun hb1020 => ?_)
      · replace h := Sh.if_t h hb1020
        refine awp_skip ?_
        refine hK6 _ (AWP.weak (Weak.re (fr' := [(1, .ref 0 0 0), (2, .ref 1 0 0), (3, .ref 2 0 0), (4, i64 k1019)]) (H' := ⟨3, [(0, (2, [G.inquestref12_G.av g_0])), (1, (2, [.agg [i64 0, nilS]])), (2, (2, [.agg [i64 cN1017, .sl (List.map u64 cRows1018)]]))]⟩) [(0, 0), (1, 1), (2, 2)] [] rfl rfl rfl (.cons rfl rfl (.one (.same _ (by simp)) rfl) (of_decide_eq_true rfl) (.cons rfl rfl (.one (.same _ (by simp)) rfl) (of_decide_eq_true rfl) (.cons rfl rfl (.one (.same _ (by simp)) rfl) (of_decide_eq_true rfl) (trivial)))) ⟨⟨_, rfl, .ref rfl⟩, ⟨_, rfl, .ref rfl⟩, ⟨_, rfl, .ref rfl⟩, ⟨_, rfl, .same _ (by simp)⟩, trivial⟩) ?_)
        clear hK6 K6
        refine awp_seqJ (fun (p : Int × (List (BitVec 64))) => (⟨[(1, .ref 0 0 0), (2, .ref 1 0 0), (3, .ref 2 0 0), (4, i64 k1019)], ⟨4, [(0, (2, [G.inquestref12_G.av g_0])), (1, (2, [.agg [i64 0, nilS]])), (2, (2, [.agg [i64 p.1, .view 3 0 (List.map u64 p.2).length]])), (3, (1, List.map u64 p.2))]⟩⟩ : St)) (fun (p : Int × (List (BitVec 64))) => G.inquestref13_Close_j2 k1019 p.1 p.2 = some o1) ?_ ?_
        · rintro ⟨v1146, v1147⟩ h
          replace h : G.inquestref13_Close_j2 k1019 v1146 v1147 = some o1 := h
          unfold G.inquestref13_Close_j2 at h
          show AWP _ _ _ _ ⟨[(1, .ref 0 0 0), (2, .ref 1 0 0), (3, .ref 2 0 0), (4, i64 k1019)], ⟨4, [(0, (2, [G.inquestref12_G.av g_0])), (1, (2, [.agg [i64 0, nilS]])), (2, (2, [.agg [i64 v1146, .view 3 0 (List.map u64 v1147).length]])), (3, (1, List.map u64 v1147))]⟩⟩ _
          refine awp_reg rfl ?_
          refine AR.op (r := i64 k1019) rfl (aop_move (.inl rfl) rfl) ?_
          refine AR.op (r := i64 (w64 (k1019 + 1))) rfl (aop_add rfl rfl rfl rfl) ?_
          refine AR.op (r := i64 (w64 (k1019 + 1))) rfl (aop_move (.inr rfl) rfl) ?_
          refine AR.nil ?_
          replace h := Sh.next_eq h
          exact ⟨_, h, Weak.re (fr' := [(1, .ref 0 0 0), (2, .ref 1 0 0), (3, .ref 2 0 0), (4, i64 (w64 (k1019 + 1)))]) (H' := ⟨3, [(0, (2, [G.inquestref12_G.av g_0])), (1, (2, [.agg [i64 0, nilS]])), (2, (2, [.agg [i64 v1146, .sl (List.map u64 v1147)]]))]⟩) [(0, 0), (1, 1), (2, 2)] [] rfl rfl rfl (.cons rfl rfl (.one (.same _ (by simp)) rfl) (of_decide_eq_true rfl) (.cons rfl rfl (.one (.same _ (by simp)) rfl) (of_decide_eq_true rfl) (.cons rfl rfl (.one (.ag ⟨.same _ (by simp), .lendAll rfl rfl (by simp), trivial⟩) rfl) (of_decide_eq_true rfl) (trivial)))) ⟨⟨_, rfl, .ref rfl⟩, ⟨_, rfl, .ref rfl⟩, ⟨_, rfl, .ref rfl⟩, ⟨_, rfl, .same _ (by simp)⟩, trivial⟩⟩
        · intro K8 hK8
          refine awp_block ?_
          refine awp_seqK fun K9 hK9 => ?_
          refine awp_reg rfl ?_
          refine AR.op rfl (aop_field_ref rfl rfl rfl fd26_0 (by decide)) ?_
          refine AR.op (r := i64 g_0.N) rfl (aop_load_ref rfl rfl rfl rfl sz3 rfl) ?_
          obtain ⟨r1149, hr1149, h⟩ := Sh.bind_some' h
          refine AR.op (r := .agg [i64 r1149.N, .view 3 0 (List.map u64 r1149.Rows).length]) rfl (aop_call2N (.agg [i64 r1149.N, .view 3 0 (List.map u64 r1149.Rows).length]) [(3, (1, List.map u64 r1149.Rows))] rfl (ys := [i64 g_0.N]) (xs := [i64 g_0.N]) rfl (Weak.refl _) rfl (by simp) (inquestref12_New_own hT hr1149) (.ag ⟨.same _ (by simp), .view _ _ _, trivial⟩) ⟨rfl, rfl, .same (by simp [AV.flat]), trivial⟩) ?_
          refine AR.drop (frx := [(1, _), (2, _), (3, _), (4, _), (20, _)]) ⟨rfl, rfl, rfl, rfl, rfl, trivial⟩ ?_
          refine AR.op (r := .ref 4 0 0) rfl (aop_alloc 2 [.agg [i64 0, nilS]] rfl zr26 (by kernel_rfl) (.inl ⟨rfl, rfl⟩)) ?_
          refine AR.op rfl (aop_store (e' := .agg [i64 r1149.N, .view 3 0 (List.map u64 r1149.Rows).length]) rfl rfl rfl rfl rfl rfl sz26 rfl (of_decide_eq_true rfl) rfl) ?_
          refine AR.nil ?_
          refine hK9 _ (AWP.weak (Weak.re (fr' := [(1, .ref 0 0 0), (2, .ref 1 0 0), (3, .ref 2 0 0), (4, i64 k1019), (5, .ref 3 0 0)]) (H' := ⟨5, [(0, (2, [G.inquestref12_G.av g_0])), (1, (2, [.agg [i64 0, nilS]])), (2, (2, [.agg [i64 cN1017, .sl (List.map u64 cRows1018)]])), (3, (2, [.agg [i64 r1149.N, .view 4 0 (List.map u64 r1149.Rows).length]])), (4, (1, List.map u64 r1149.Rows))]⟩) [(0, 0), (1, 1), (2, 2), (3, 4), (4, 3)] [] rfl rfl rfl (.cons rfl rfl (.one (.same _ (by simp)) rfl) (of_decide_eq_true rfl) (.cons rfl rfl (.one (.same _ (by simp)) rfl) (of_decide_eq_true rfl) (.cons rfl rfl (.one (.same _ (by simp)) rfl) (of_decide_eq_true rfl) (.cons rfl rfl (.one (.ag ⟨.same _ (by simp), .view rfl, trivial⟩) rfl) (of_decide_eq_true rfl) (.cons rfl rfl (.same (by simp)) (of_decide_eq_true rfl) (trivial)))))) ⟨⟨_, rfl, .ref rfl⟩, ⟨_, rfl, .ref rfl⟩, ⟨_, rfl, .ref rfl⟩, ⟨_, rfl, .same _ (by simp)⟩, ⟨_, rfl, .ref rfl⟩, trivial⟩) ?_)
          clear hK9 K9
          refine awp_seqJ (fun (p : (List (BitVec 64))) => (⟨[(1, .ref 0 0 0), (2, .ref 1 0 0), (3, .ref 2 0 0), (4, i64 k1019), (5, .ref 3 0 0)], ⟨5, [(0, (2, [G.inquestref12_G.av g_0])), (1, (2, [.agg [i64 0, nilS]])), (2, (2, [.agg [i64 cN1017, .sl (List.map u64 cRows1018)]])), (3, (2, [.agg [i64 r1149.N, .view 4 0 (List.map u64 p).length]])), (4, (1, List.map u64 p))]⟩⟩ : St)) (fun (p : (List (BitVec 64))) => G.inquestref13_Close_j3 k1019 r1149 p = some o1) ?_ ?_
          · rintro v1274 h
            replace h : G.inquestref13_Close_j3 k1019 r1149 v1274 = some o1 := h
            unfold G.inquestref13_Close_j3 at h
            show AWP _ _ _ _ ⟨[(1, .ref 0 0 0), (2, .ref 1 0 0), (3, .ref 2 0 0), (4, i64 k1019), (5, .ref 3 0 0)], ⟨5, [(0, (2, [G.inquestref12_G.av g_0])), (1, (2, [.agg [i64 0, nilS]])), (2, (2, [.agg [i64 cN1017, .sl (List.map u64 cRows1018)]])), (3, (2, [.agg [i64 r1149.N, .view 4 0 (List.map u64 v1274).length]])), (4, (1, List.map u64 v1274))]⟩⟩ _
            refine awp_reg rfl ?_
            refine AR.op (r := .agg [i64 r1149.N, .view 4 0 (List.map u64 v1274).length]) rfl (aop_load_ref rfl rfl rfl rfl sz26 rfl) ?_
            refine AR.op rfl (aop_store (e' := .agg [i64 r1149.N, .view 4 0 (List.map u64 v1274).length]) rfl rfl rfl rfl rfl rfl sz26 rfl (of_decide_eq_true rfl) rfl) ?_
            refine AR.nil ?_
            exact hK8 (r1149.N, v1274) _ h (Weak.re (fr' := [(1, .ref 0 0 0), (2, .ref 1 0 0), (3, .ref 2 0 0), (4, i64 k1019)]) (H' := ⟨4, [(0, (2, [G.inquestref12_G.av g_0])), (1, (2, [.agg [i64 0, nilS]])), (2, (2, [.agg [i64 r1149.N, .view 3 0 (List.map u64 v1274).length]])), (3, (1, List.map u64 v1274))]⟩) [(0, 0), (1, 1), (2, 2), (3, 4)] [] rfl rfl rfl (.cons rfl rfl (.one (.same _ (by simp)) rfl) (of_decide_eq_true rfl) (.cons rfl rfl (.one (.same _ (by simp)) rfl) (of_decide_eq_true rfl) (.cons rfl rfl (.one (.ag ⟨.same _ (by simp), .view rfl, trivial⟩) rfl) (of_decide_eq_true rfl) (.cons rfl rfl (.same (by simp)) (of_decide_eq_true rfl) (trivial))))) ⟨⟨_, rfl, .ref rfl⟩, ⟨_, rfl, .ref rfl⟩, ⟨_, rfl, .ref rfl⟩, ⟨_, rfl, .same _ (by simp)⟩, trivial⟩)
          · intro K10 hK10
            refine awp_seqK fun K11 hK11 => ?_
            refine awp_reg rfl ?_
            refine AR.op (r := i64 0) rfl (aop_move (.inr rfl) rfl) ?_
            refine AR.nil ?_
            refine hK11 _ ?_
            clear hK11 K11
            refine awp_block ?_
            refine awp_iter (fun (p : (List (BitVec 64)) × Int) => G.inquestref13_Close_b2 g_0 cN1017 cRows1018 k1019 r1149 p.1 p.2) (fun (p : (List (BitVec 64)) × Int) => (⟨[(1, .ref 0 0 0), (2, .ref 1 0 0), (3, .ref 2 0 0), (4, i64 k1019), (5, .ref 3 0 0), (6, i64 p.2)], ⟨5, [(0, (2, [G.inquestref12_G.av g_0])), (1, (2, [.agg [i64 0, nilS]])), (2, (2, [.agg [i64 cN1017, .sl (List.map u64 cRows1018)]])), (3, (2, [.agg [i64 r1149.N, .view 4 0 (List.map u64 p.1).length]])), (4, (1, List.map u64 p.1))]⟩⟩ : St)) h (Weak.re (fr' := [(1, .ref 0 0 0), (2, .ref 1 0 0), (3, .ref 2 0 0), (4, i64 k1019), (5, .ref 3 0 0), (6, i64 0)]) (H' := ⟨5, [(0, (2, [G.inquestref12_G.av g_0])), (1, (2, [.agg [i64 0, nilS]])), (2, (2, [.agg [i64 cN1017, .sl (List.map u64 cRows1018)]])), (3, (2, [.agg [i64 r1149.N, .view 4 0 (List.map u64 r1149.Rows).length]])), (4, (1, List.map u64 r1149.Rows))]⟩) [(0, 0), (1, 1), (2, 2), (3, 3), (4, 4)] [] rfl rfl rfl (.cons rfl rfl (.one (.same _ (by simp)) rfl) (of_decide_eq_true rfl) (.cons rfl rfl (.one (.same _ (by simp)) rfl) (of_decide_eq_true rfl) (.cons rfl rfl (.one (.same _ (by simp)) rfl) (of_decide_eq_true rfl) (.cons rfl rfl (.one (.ag ⟨.same _ (by simp), .view rfl, trivial⟩) rfl) (of_decide_eq_true rfl) (.cons rfl rfl (.same (by simp)) (of_decide_eq_true rfl) (trivial)))))) ⟨⟨_, rfl, .ref rfl⟩, ⟨_, rfl, .ref rfl⟩, ⟨_, rfl, .ref rfl⟩, ⟨_, rfl, .same _ (by simp)⟩, ⟨_, rfl, .ref rfl⟩, ⟨_, rfl, .same _ (by simp)⟩, trivial⟩) ?_
            · skip
              rintro ⟨dRows1357, x1358⟩ o2 h hx2
              replace h : G.inquestref13_Close_b2 g_0 cN1017 cRows1018 k1019 r1149 dRows1357 x1358 = some o2 := h
              unfold G.inquestref13_Close_b2 at h
              show AWP _ _ _ _ ⟨[(1, .ref 0 0 0), (2, .ref 1 0 0), (3, .ref 2 0 0), (4, i64 k1019), (5, .ref 3 0 0), (6, i64 x1358)], ⟨5, [(0, (2, [G.inquestref12_G.av g_0])), (1, (2, [.agg [i64 0, nilS]])), (2, (2, [.agg [i64 cN1017, .sl (List.map u64 cRows1018)]])), (3, (2, [.agg [i64 r1149.N, .view 4 0 (List.map u64 dRows1357).length]])), (4, (1, List.map u64 dRows1357))]⟩⟩ _
              refine awp_seqK fun K12 hK12 => ?_
              refine awp_seqK fun K13 hK13 => ?_
              refine awp_reg rfl ?_
              refine AR.op (r := i64 x1358) rfl (aop_move (.inl rfl) rfl) ?_
              refine AR.op rfl (aop_field_ref rfl rfl rfl fd26_0 (by decide)) ?_
              refine AR.op (r := i64 g_0.N) rfl (aop_load_ref rfl rfl rfl rfl sz3 rfl) ?_
              refine AR.drop (frx := [(1, _), (2, _), (3, _), (4, _), (5, _), (6, _), (21, _), (23, _)]) ⟨rfl, rfl, rfl, rfl, rfl, rfl, rfl, rfl, trivial⟩ ?_
              refine AR.op (r := bl (decide (x1358 < g_0.N))) rfl (aop_lss rfl rfl rfl) ?_
              refine AR.nil ?_
              refine hK13 _ (AWP.weak (Weak.re (fr' := [(1, .ref 0 0 0), (2, .ref 1 0 0), (3, .ref 2 0 0), (4, i64 k1019), (5, .ref 3 0 0), (6, i64 x1358), (24, bl (decide (x1358 < g_0.N)))]) (H' := ⟨5, [(0, (2, [G.inquestref12_G.av g_0])), (1, (2, [.agg [i64 0, nilS]])), (2, (2, [.agg [i64 cN1017, .sl (List.map u64 cRows1018)]])), (3, (2, [.agg [i64 r1149.N, .view 4 0 (List.map u64 dRows1357).length]])), (4, (1, List.map u64 dRows1357))]⟩) [(0, 0), (1, 1), (2, 2), (3, 3), (4, 4)] [] rfl rfl rfl (.cons rfl rfl (.one (.same _ (by simp)) rfl) (of_decide_eq_true rfl) (.cons rfl rfl (.one (.same _ (by simp)) rfl) (of_decide_eq_true rfl) (.cons rfl rfl (.one (.same _ (by simp)) rfl) (of_decide_eq_true rfl) (.cons rfl rfl (.one (.ag ⟨.same _ (by simp), .view rfl, trivial⟩) rfl) (of_decide_eq_true rfl) (.cons rfl rfl (.same (by simp)) (of_decide_eq_true rfl) (trivial)))))) ⟨⟨_, rfl, .ref rfl⟩, ⟨_, rfl, .ref rfl⟩, ⟨_, rfl, .ref rfl⟩, ⟨_, rfl, .same _ (by simp)⟩, ⟨_, rfl, .ref rfl⟩, ⟨_, rfl, .same _ (by simp)⟩, ⟨_, rfl, .same _ (by simp)⟩, trivial⟩) ?_)
              clear hK13 K13
              refine awp_cond rfl (fun hb1359 => ?_) (fun hb1359 => ?_)
              · replace h := Sh.if_t h hb1359
                refine awp_skip ?_
                refine hK12 _ (AWP.weak (Weak.re (fr' := [(1, .ref 0 0 0), (2, .ref 1 0 0), (3, .ref 2 0 0), (4, i64 k1019), (5, .ref 3 0 0), (6, i64 x1358)]) (H' := ⟨5, [(0, (2, [G.inquestref12_G.av g_0])), (1, (2, [.agg [i64 0, nilS]])), (2, (2, [.agg [i64 cN1017, .sl (List.map u64 cRows1018)]])), (3, (2, [.agg [i64 r1149.N, .view 4 0 (List.map u64 dRows1357).length]])), (4, (1, List.map u64 dRows1357))]⟩) [(0, 0), (1, 1), (2, 2), (3, 3), (4, 4)] [] rfl rfl rfl (.cons rfl rfl (.one (.same _ (by simp)) rfl) (of_decide_eq_true rfl) (.cons rfl rfl (.one (.same _ (by simp)) rfl) (of_decide_eq_true rfl) (.cons rfl rfl (.one (.same _ (by simp)) rfl) (of_decide_eq_true rfl) (.cons rfl rfl (.one (.ag ⟨.same _ (by simp), .view rfl, trivial⟩) rfl) (of_decide_eq_true rfl) (.cons rfl rfl (.same (by simp)) (of_decide_eq_true rfl) (trivial)))))) ⟨⟨_, rfl, .ref rfl⟩, ⟨_, rfl, .ref rfl⟩, ⟨_, rfl, .ref rfl⟩, ⟨_, rfl, .same _ (by simp)⟩, ⟨_, rfl, .ref rfl⟩, ⟨_, rfl, .same _ (by simp)⟩, trivial⟩) ?_)
                clear hK12 K12
                refine awp_seqJ (fun (p : (List (BitVec 64))) => (⟨[(1, .ref 0 0 0), (2, .ref 1 0 0), (3, .ref 2 0 0), (4, i64 k1019), (5, .ref 3 0 0), (6, i64 x1358)], ⟨5, [(0, (2, [G.inquestref12_G.av g_0])), (1, (2, [.agg [i64 0, nilS]])), (2, (2, [.agg [i64 cN1017, .sl (List.map u64 cRows1018)]])), (3, (2, [.agg [i64 r1149.N, .view 4 0 (List.map u64 p).length]])), (4, (1, List.map u64 p))]⟩⟩ : St)) (fun (p : (List (BitVec 64))) => G.inquestref13_Close_j4 x1358 p = some o2) ?_ ?_
                · rintro v1400 h
                  replace h : G.inquestref13_Close_j4 x1358 v1400 = some o2 := h
                  unfold G.inquestref13_Close_j4 at h
                  show AWP _ _ _ _ ⟨[(1, .ref 0 0 0), (2, .ref 1 0 0), (3, .ref 2 0 0), (4, i64 k1019), (5, .ref 3 0 0), (6, i64 x1358)], ⟨5, [(0, (2, [G.inquestref12_G.av g_0])), (1, (2, [.agg [i64 0, nilS]])), (2, (2, [.agg [i64 cN1017, .sl (List.map u64 cRows1018)]])), (3, (2, [.agg [i64 r1149.N, .view 4 0 (List.map u64 v1400).length]])), (4, (1, List.map u64 v1400))]⟩⟩ _
                  refine awp_reg rfl ?_
                  refine AR.op (r := i64 x1358) rfl (aop_move (.inl rfl) rfl) ?_
                  refine AR.op (r := i64 (w64 (x1358 + 1))) rfl (aop_add rfl rfl rfl rfl) ?_
                  refine AR.op (r := i64 (w64 (x1358 + 1))) rfl (aop_move (.inr rfl) rfl) ?_
                  refine AR.nil ?_
                  replace h := Sh.next_eq h
                  exact ⟨_, h, Weak.re (fr' := [(1, .ref 0 0 0), (2, .ref 1 0 0), (3, .ref 2 0 0), (4, i64 k1019), (5, .ref 3 0 0), (6, i64 (w64 (x1358 + 1)))]) (H' := ⟨5, [(0, (2, [G.inquestref12_G.av g_0])), (1, (2, [.agg [i64 0, nilS]])), (2, (2, [.agg [i64 cN1017, .sl (List.map u64 cRows1018)]])), (3, (2, [.agg [i64 r1149.N, .view 4 0 (List.map u64 v1400).length]])), (4, (1, List.map u64 v1400))]⟩) [(0, 0), (1, 1), (2, 2), (3, 3), (4, 4)] [] rfl rfl rfl (.cons rfl rfl (.one (.same _ (by simp)) rfl) (of_decide_eq_true rfl) (.cons rfl rfl (.one (.same _ (by simp)) rfl) (of_decide_eq_true rfl) (.cons rfl rfl (.one (.same _ (by simp)) rfl) (of_decide_eq_true rfl) (.cons rfl rfl (.one (.ag ⟨.same _ (by simp), .view rfl, trivial⟩) rfl) (of_decide_eq_true rfl) (.cons rfl rfl (.same (by simp)) (of_decide_eq_true rfl) (trivial)))))) ⟨⟨_, rfl, .ref rfl⟩, ⟨_, rfl, .ref rfl⟩, ⟨_, rfl, .ref rfl⟩, ⟨_, rfl, .same _ (by simp)⟩, ⟨_, rfl, .ref rfl⟩, ⟨_, rfl, .same _ (by simp)⟩, trivial⟩⟩
                · intro K14 hK14
                  refine awp_block ?_
                  refine awp_seqK fun K15 hK15 => ?_
                  refine awp_reg rfl ?_
                  refine AR.op (r := i64 0) rfl (aop_move (.inr rfl) rfl) ?_
                  refine AR.nil ?_
                  refine hK15 _ ?_
                  clear hK15 K15
                  refine awp_block ?_
                  refine awp_iter (fun (p : (List (BitVec 64)) × Int) => G.inquestref13_Close_b3 g_0 cN1017 cRows1018 k1019 x1358 p.1 p.2) (fun (p : (List (BitVec 64)) × Int) => (⟨[(1, .ref 0 0 0), (2, .ref 1 0 0), (3, .ref 2 0 0), (4, i64 k1019), (5, .ref 3 0 0), (6, i64 x1358), (7, i64 p.2)], ⟨5, [(0, (2, [G.inquestref12_G.av g_0])), (1, (2, [.agg [i64 0, nilS]])), (2, (2, [.agg [i64 cN1017, .sl (List.map u64 cRows1018)]])), (3, (2, [.agg [i64 r1149.N, .view 4 0 (List.map u64 p.1).length]])), (4, (1, List.map u64 p.1))]⟩⟩ : St)) h (Weak.re (fr' := [(1, .ref 0 0 0), (2, .ref 1 0 0), (3, .ref 2 0 0), (4, i64 k1019), (5, .ref 3 0 0), (6, i64 x1358), (7, i64 0)]) (H' := ⟨5, [(0, (2, [G.inquestref12_G.av g_0])), (1, (2, [.agg [i64 0, nilS]])), (2, (2, [.agg [i64 cN1017, .sl (List.map u64 cRows1018)]])), (3, (2, [.agg [i64 r1149.N, .view 4 0 (List.map u64 dRows1357).length]])), (4, (1, List.map u64 dRows1357))]⟩) [(0, 0), (1, 1), (2, 2), (3, 3), (4, 4)] [] rfl rfl rfl (.cons rfl rfl (.one (.same _ (by simp)) rfl) (of_decide_eq_true rfl) (.cons rfl rfl (.one (.same _ (by simp)) rfl) (of_decide_eq_true rfl) (.cons rfl rfl (.one (.same _ (by simp)) rfl) (of_decide_eq_true rfl) (.cons rfl rfl (.one (.ag ⟨.same _ (by simp), .view rfl, trivial⟩) rfl) (of_decide_eq_true rfl) (.cons rfl rfl (.same (by simp)) (of_decide_eq_true rfl) (trivial)))))) ⟨⟨_, rfl, .ref rfl⟩, ⟨_, rfl, .ref rfl⟩, ⟨_, rfl, .ref rfl⟩, ⟨_, rfl, .same _ (by simp)⟩, ⟨_, rfl, .ref rfl⟩, ⟨_, rfl, .same _ (by simp)⟩, ⟨_, rfl, .same _ (by simp)⟩, trivial⟩) ?_
                  · skip
                    rintro ⟨dRows1427, y1428⟩ o3 h hx3
                    replace h : G.inquestref13_Close_b3 g_0 cN1017 cRows1018 k1019 x1358 dRows1427 y1428 = some o3 := h
                    unfold G.inquestref13_Close_b3 at h
                    show AWP _ _ _ _ ⟨[(1, .ref 0 0 0), (2, .ref 1 0 0), (3, .ref 2 0 0), (4, i64 k1019), (5, .ref 3 0 0), (6, i64 x1358), (7, i64 y1428)], ⟨5, [(0, (2, [G.inquestref12_G.av g_0])), (1, (2, [.agg [i64 0, nilS]])), (2, (2, [.agg [i64 cN1017, .sl (List.map u64 cRows1018)]])), (3, (2, [.agg [i64 r1149.N, .view 4 0 (List.map u64 dRows1427).length]])), (4, (1, List.map u64 dRows1427))]⟩⟩ _
                    refine awp_seqK fun K16 hK16 => ?_
                    refine awp_seqK fun K17 hK17 => ?_
                    refine awp_reg rfl ?_
                    refine AR.op (r := i64 y1428) rfl (aop_move (.inl rfl) rfl) ?_
                    refine AR.op rfl (aop_field_ref rfl rfl rfl fd26_0 (by decide)) ?_
                    refine AR.op (r := i64 g_0.N) rfl (aop_load_ref rfl rfl rfl rfl sz3 rfl) ?_
                    refine AR.drop (frx := [(1, _), (2, _), (3, _), (4, _), (5, _), (6, _), (7, _), (27, _), (29, _)]) ⟨rfl, rfl, rfl, rfl, rfl, rfl, rfl, rfl, rfl, trivial⟩ ?_
                    refine AR.op (r := bl (decide (y1428 < g_0.N))) rfl (aop_lss rfl rfl rfl) ?_
                    refine AR.nil ?_
                    refine hK17 _ (AWP.weak (Weak.re (fr' := [(1, .ref 0 0 0), (2, .ref 1 0 0), (3, .ref 2 0 0), (4, i64 k1019), (5, .ref 3 0 0), (6, i64 x1358), (7, i64 y1428), (30, bl (decide (y1428 < g_0.N)))]) (H' := ⟨5, [(0, (2, [G.inquestref12_G.av g_0])), (1, (2, [.agg [i64 0, nilS]])), (2, (2, [.agg [i64 cN1017, .sl (List.map u64 cRows1018)]])), (3, (2, [.agg [i64 r1149.N, .view 4 0 (List.map u64 dRows1427).length]])), (4, (1, List.map u64 dRows1427))]⟩) [(0, 0), (1, 1), (2, 2), (3, 3), (4, 4)] [] rfl rfl rfl (.cons rfl rfl (.one (.same _ (by simp)) rfl) (of_decide_eq_true rfl) (.cons rfl rfl (.one (.same _ (by simp)) rfl) (of_decide_eq_true rfl) (.cons rfl rfl (.one (.same _ (by simp)) rfl) (of_decide_eq_true rfl) (.cons rfl rfl (.one (.ag ⟨.same _ (by simp), .view rfl, trivial⟩) rfl) (of_decide_eq_true rfl) (.cons rfl rfl (.same (by simp)) (of_decide_eq_true rfl) (trivial)))))) ⟨⟨_, rfl, .ref rfl⟩, ⟨_, rfl, .ref rfl⟩, ⟨_, rfl, .ref rfl⟩, ⟨_, rfl, .same _ (by simp)⟩, ⟨_, rfl, .ref rfl⟩, ⟨_, rfl, .same _ (by simp)⟩, ⟨_, rfl, .same _ (by simp)⟩, ⟨_, rfl, .same _ (by simp)⟩, trivial⟩) ?_)
                    clear hK17 K17
                    refine awp_cond rfl (fun hb1429 => ?_) (fun hb1429 => ?_)
                    · replace h := Sh.if_t h hb1429
                      refine awp_skip ?_
                      refine hK16 _ (AWP.weak (Weak.re (fr' := [(1, .ref 0 0 0), (2, .ref 1 0 0), (3, .ref 2 0 0), (4, i64 k1019), (5, .ref 3 0 0), (6, i64 x1358), (7, i64 y1428)]) (H' := ⟨5, [(0, (2, [G.inquestref12_G.av g_0])), (1, (2, [.agg [i64 0, nilS]])), (2, (2, [.agg [i64 cN1017, .sl (List.map u64 cRows1018)]])), (3, (2, [.agg [i64 r1149.N, .view 4 0 (List.map u64 dRows1427).length]])), (4, (1, List.map u64 dRows1427))]⟩) [(0, 0), (1, 1), (2, 2), (3, 3), (4, 4)] [] rfl rfl rfl (.cons rfl rfl (.one (.same _ (by simp)) rfl) (of_decide_eq_true rfl) (.cons rfl rfl (.one (.same _ (by simp)) rfl) (of_decide_eq_true rfl) (.cons rfl rfl (.one (.same _ (by simp)) rfl) (of_decide_eq_true rfl) (.cons rfl rfl (.one (.ag ⟨.same _ (by simp), .view rfl, trivial⟩) rfl) (of_decide_eq_true rfl) (.cons rfl rfl (.same (by simp)) (of_decide_eq_true rfl) (trivial)))))) ⟨⟨_, rfl, .ref rfl⟩, ⟨_, rfl, .ref rfl⟩, ⟨_, rfl, .ref rfl⟩, ⟨_, rfl, .same _ (by simp)⟩, ⟨_, rfl, .ref rfl⟩, ⟨_, rfl, .same _ (by simp)⟩, ⟨_, rfl, .same _ (by simp)⟩, trivial⟩) ?_)
                      clear hK16 K16
                      refine awp_seqJ (fun (p : (List (BitVec 64))) => (⟨[(1, .ref 0 0 0), (2, .ref 1 0 0), (3, .ref 2 0 0), (4, i64 k1019), (5, .ref 3 0 0), (6, i64 x1358), (7, i64 y1428), (47, .any), (48, .any), (49, .any), (50, .any)], ⟨5, [(0, (2, [G.inquestref12_G.av g_0])), (1, (2, [.agg [i64 0, nilS]])), (2, (2, [.agg [i64 cN1017, .sl (List.map u64 cRows1018)]])), (3, (2, [.agg [i64 r1149.N, .view 4 0 (List.map u64 p).length]])), (4, (1, List.map u64 p))]⟩⟩ : St)) (fun (p : (List (BitVec 64))) => G.inquestref13_Close_j5 y1428 p = some o3) ?_ ?_
                      · rintro dRows1441 h
                        replace h : G.inquestref13_Close_j5 y1428 dRows1441 = some o3 := h
                        unfold G.inquestref13_Close_j5 at h
                        show AWP _ _ _ _ ⟨[(1, .ref 0 0 0), (2, .ref 1 0 0), (3, .ref 2 0 0), (4, i64 k1019), (5, .ref 3 0 0), (6, i64 x1358), (7, i64 y1428), (47, .any), (48, .any), (49, .any), (50, .any)], ⟨5, [(0, (2, [G.inquestref12_G.av g_0])), (1, (2, [.agg [i64 0, nilS]])), (2, (2, [.agg [i64 cN1017, .sl (List.map u64 cRows1018)]])), (3, (2, [.agg [i64 r1149.N, .view 4 0 (List.map u64 dRows1441).length]])), (4, (1, List.map u64 dRows1441))]⟩⟩ _
                        refine awp_reg rfl ?_
                        refine AR.op (r := i64 y1428) rfl (aop_move (.inl rfl) rfl) ?_
                        refine AR.op (r := i64 (w64 (y1428 + 1))) rfl (aop_add rfl rfl rfl rfl) ?_
                        refine AR.op (r := i64 (w64 (y1428 + 1))) rfl (aop_move (.inr rfl) rfl) ?_
                        refine AR.nil ?_
                        replace h := Sh.next_eq h
                        exact ⟨_, h, Weak.re (fr' := [(1, .ref 0 0 0), (2, .ref 1 0 0), (3, .ref 2 0 0), (4, i64 k1019), (5, .ref 3 0 0), (6, i64 x1358), (7, i64 (w64 (y1428 + 1)))]) (H' := ⟨5, [(0, (2, [G.inquestref12_G.av g_0])), (1, (2, [.agg [i64 0, nilS]])), (2, (2, [.agg [i64 cN1017, .sl (List.map u64 cRows1018)]])), (3, (2, [.agg [i64 r1149.N, .view 4 0 (List.map u64 dRows1441).length]])), (4, (1, List.map u64 dRows1441))]⟩) [(0, 0), (1, 1), (2, 2), (3, 3), (4, 4)] [] rfl rfl rfl (.cons rfl rfl (.one (.same _ (by simp)) rfl) (of_decide_eq_true rfl) (.cons rfl rfl (.one (.same _ (by simp)) rfl) (of_decide_eq_true rfl) (.cons rfl rfl (.one (.same _ (by simp)) rfl) (of_decide_eq_true rfl) (.cons rfl rfl (.one (.ag ⟨.same _ (by simp), .view rfl, trivial⟩) rfl) (of_decide_eq_true rfl) (.cons rfl rfl (.same (by simp)) (of_decide_eq_true rfl) (trivial)))))) ⟨⟨_, rfl, .ref rfl⟩, ⟨_, rfl, .ref rfl⟩, ⟨_, rfl, .ref rfl⟩, ⟨_, rfl, .same _ (by simp)⟩, ⟨_, rfl, .ref rfl⟩, ⟨_, rfl, .same _ (by simp)⟩, ⟨_, rfl, .same _ (by simp)⟩, trivial⟩⟩
                      · intro K18 hK18
                        refine awp_block ?_
                        refine awp_seqK fun K19 hK19 => ?_
                        refine awp_reg rfl ?_
                        refine AR.op (r := .agg [i64 cN1017, .sl (List.map u64 cRows1018)]) rfl (aop_load_ref rfl rfl rfl rfl sz26 rfl) ?_
                        refine AR.op (r := i64 x1358) rfl (aop_move (.inl rfl) rfl) ?_
                        refine AR.op (r := i64 y1428) rfl (aop_move (.inl rfl) rfl) ?_
                        refine AR.drop (frx := [(1, _), (2, _), (3, _), (4, _), (5, _), (6, _), (7, _), (33, _), (34, _), (35, _)]) ⟨rfl, rfl, rfl, rfl, rfl, rfl, rfl, rfl, rfl, rfl, trivial⟩ ?_
                        obtain ⟨r1443, hr1443, h⟩ := Sh.bind_some' h
                        refine AR.op (r := bl r1443) rfl (aop_callN rfl (ys := [.agg [i64 cN1017, .sl (List.map u64 cRows1018)], i64 x1358, i64 y1428]) (xs := [G.inquestref12_G.av (G.inquestref12_G.mk cN1017 cRows1018), i64 x1358, i64 y1428]) rfl (Weak.re (fr' := argsFr 0 [G.inquestref12_G.av (G.inquestref12_G.mk cN1017 cRows1018), i64 x1358, i64 y1428]) (H' := .empty) [] [] rfl rfl rfl trivial ⟨⟨.agg [i64 cN1017, .sl (List.map u64 cRows1018)], rfl, .same _ (by simp)⟩, ⟨_, rfl, .same _ (by simp)⟩, ⟨_, rfl, .same _ (by simp)⟩, trivial⟩) rfl (by simp) (inquestref12_Has_ok hT hr1443)) ?_
                        refine AR.op (r := bl r1443) rfl (aop_move (.inr rfl) rfl) ?_
                        refine AR.nil ?_
                        refine hK19 _ (AWP.weak (Weak.re (fr' := [(1, .ref 0 0 0), (2, .ref 1 0 0), (3, .ref 2 0 0), (4, i64 k1019), (5, .ref 3 0 0), (6, i64 x1358), (7, i64 y1428), (8, bl r1443)]) (H' := ⟨5, [(0, (2, [G.inquestref12_G.av g_0])), (1, (2, [.agg [i64 0, nilS]])), (2, (2, [.agg [i64 cN1017, .sl (List.map u64 cRows1018)]])), (3, (2, [.agg [i64 r1149.N, .view 4 0 (List.map u64 dRows1427).length]])), (4, (1, List.map u64 dRows1427))]⟩) [(0, 0), (1, 1), (2, 2), (3, 3), (4, 4)] [] rfl rfl rfl (.cons rfl rfl (.one (.same _ (by simp)) rfl) (of_decide_eq_true rfl) (.cons rfl rfl (.one (.same _ (by simp)) rfl) (of_decide_eq_true rfl) (.cons rfl rfl (.one (.same _ (by simp)) rfl) (of_decide_eq_true rfl) (.cons rfl rfl (.one (.ag ⟨.same _ (by simp), .view rfl, trivial⟩) rfl) (of_decide_eq_true rfl) (.cons rfl rfl (.same (by simp)) (of_decide_eq_true rfl) (trivial)))))) ⟨⟨_, rfl, .ref rfl⟩, ⟨_, rfl, .ref rfl⟩, ⟨_, rfl, .ref rfl⟩, ⟨_, rfl, .same _ (by simp)⟩, ⟨_, rfl, .ref rfl⟩, ⟨_, rfl, .same _ (by simp)⟩, ⟨_, rfl, .same _ (by simp)⟩, ⟨_, rfl, .same _ (by simp)⟩, trivial⟩) ?_)
                        clear hK19 K19
                        refine awp_seqK fun K20 hK20 => ?_
                        refine awp_reg rfl ?_
                        refine AR.op (r := .agg [i64 cN1017, .sl (List.map u64 cRows1018)]) rfl (aop_load_ref rfl rfl rfl rfl sz26 rfl) ?_
                        refine AR.op (r := i64 x1358) rfl (aop_move (.inl rfl) rfl) ?_
                        refine AR.op (r := i64 k1019) rfl (aop_move (.inl rfl) rfl) ?_
                        refine AR.drop (frx := [(1, _), (2, _), (3, _), (4, _), (5, _), (6, _), (7, _), (8, _), (37, _), (38, _), (39, _)]) ⟨rfl, rfl, rfl, rfl, rfl, rfl, rfl, rfl, rfl, rfl, rfl, trivial⟩ ?_
                        obtain ⟨r1445, hr1445, h⟩ := Sh.bind_some' h
                        refine AR.op (r := bl r1445) rfl (aop_callN rfl (ys := [.agg [i64 cN1017, .sl (List.map u64 cRows1018)], i64 x1358, i64 k1019]) (xs := [G.inquestref12_G.av (G.inquestref12_G.mk cN1017 cRows1018), i64 x1358, i64 k1019]) rfl (Weak.re (fr' := argsFr 0 [G.inquestref12_G.av (G.inquestref12_G.mk cN1017 cRows1018), i64 x1358, i64 k1019]) (H' := .empty) [] [] rfl rfl rfl trivial ⟨⟨.agg [i64 cN1017, .sl (List.map u64 cRows1018)], rfl, .same _ (by simp)⟩, ⟨_, rfl, .same _ (by simp)⟩, ⟨_, rfl, .same _ (by simp)⟩, trivial⟩) rfl (by simp) (inquestref12_Has_ok hT hr1445)) ?_
                        refine AR.op (r := bl r1445) rfl (aop_move (.inr rfl) rfl) ?_
                        refine AR.nil ?_
                        refine hK20 _ (AWP.weak (Weak.re (fr' := [(1, .ref 0 0 0), (2, .ref 1 0 0), (3, .ref 2 0 0), (4, i64 k1019), (5, .ref 3 0 0), (6, i64 x1358), (7, i64 y1428), (8, bl r1443), (9, bl r1445)]) (H' := ⟨5, [(0, (2, [G.inquestref12_G.av g_0])), (1, (2, [.agg [i64 0, nilS]])), (2, (2, [.agg [i64 cN1017, .sl (List.map u64 cRows1018)]])), (3, (2, [.agg [i64 r1149.N, .view 4 0 (List.map u64 dRows1427).length]])), (4, (1, List.map u64 dRows1427))]⟩) [(0, 0), (1, 1), (2, 2), (3, 3), (4, 4)] [] rfl rfl rfl (.cons rfl rfl (.one (.same _ (by simp)) rfl) (of_decide_eq_true rfl) (.cons rfl rfl (.one (.same _ (by simp)) rfl) (of_decide_eq_true rfl) (.cons rfl rfl (.one (.same _ (by simp)) rfl) (of_decide_eq_true rfl) (.cons rfl rfl (.one (.ag ⟨.same _ (by simp), .view rfl, trivial⟩) rfl) (of_decide_eq_true rfl) (.cons rfl rfl (.same (by simp)) (of_decide_eq_true rfl) (trivial)))))) ⟨⟨_, rfl, .ref rfl⟩, ⟨_, rfl, .ref rfl⟩, ⟨_, rfl, .ref rfl⟩, ⟨_, rfl, .same _ (by simp)⟩, ⟨_, rfl, .ref rfl⟩, ⟨_, rfl, .same _ (by simp)⟩, ⟨_, rfl, .same _ (by simp)⟩, ⟨_, rfl, .same _ (by simp)⟩, ⟨_, rfl, .same _ (by simp)⟩, trivial⟩) ?_)
                        clear hK20 K20
                        refine awp_seqK fun K21 hK21 => ?_
                        refine awp_reg rfl ?_
                        refine AR.op (r := .agg [i64 cN1017, .sl (List.map u64 cRows1018)]) rfl (aop_load_ref rfl rfl rfl rfl sz26 rfl) ?_
                        refine AR.op (r := i64 k1019) rfl (aop_move (.inl rfl) rfl) ?_
                        refine AR.op (r := i64 y1428) rfl (aop_move (.inl rfl) rfl) ?_
                        refine AR.drop (frx := [(1, _), (2, _), (3, _), (4, _), (5, _), (6, _), (7, _), (8, _), (9, _), (41, _), (42, _), (43, _)]) ⟨rfl, rfl, rfl, rfl, rfl, rfl, rfl, rfl, rfl, rfl, rfl, rfl, trivial⟩ ?_
                        obtain ⟨r1447, hr1447, h⟩ := Sh.bind_some' h
                        refine AR.op (r := bl r1447) rfl (aop_callN rfl (ys := [.agg [i64 cN1017, .sl (List.map u64 cRows1018)], i64 k1019, i64 y1428]) (xs := [G.inquestref12_G.av (G.inquestref12_G.mk cN1017 cRows1018), i64 k1019, i64 y1428]) rfl (Weak.re (fr' := argsFr 0 [G.inquestref12_G.av (G.inquestref12_G.mk cN1017 cRows1018), i64 k1019, i64 y1428]) (H' := .empty) [] [] rfl rfl rfl trivial ⟨⟨.agg [i64 cN1017, .sl (List.map u64 cRows1018)], rfl, .same _ (by simp)⟩, ⟨_, rfl, .same _ (by simp)⟩, ⟨_, rfl, .same _ (by simp)⟩, trivial⟩) rfl (by simp) (inquestref12_Has_ok hT hr1447)) ?_
                        refine AR.op (r := bl r1447) rfl (aop_move (.inr rfl) rfl) ?_
                        refine AR.nil ?_
                        refine hK21 _ (AWP.weak (Weak.re (fr' := [(1, .ref 0 0 0), (2, .ref 1 0 0), (3, .ref 2 0 0), (4, i64 k1019), (5, .ref 3 0 0), (6, i64 x1358), (7, i64 y1428), (8, bl r1443), (9, bl r1445), (10, bl r1447)]) (H' := ⟨5, [(0, (2, [G.inquestref12_G.av g_0])), (1, (2, [.agg [i64 0, nilS]])), (2, (2, [.agg [i64 cN1017, .sl (List.map u64 cRows1018)]])), (3, (2, [.agg [i64 r1149.N, .view 4 0 (List.map u64 dRows1427).length]])), (4, (1, List.map u64 dRows1427))]⟩) [(0, 0), (1, 1), (2, 2), (3, 3), (4, 4)] [] rfl rfl rfl (.cons rfl rfl (.one (.same _ (by simp)) rfl) (of_decide_eq_true rfl) (.cons rfl rfl (.one (.same _ (by simp)) rfl) (of_decide_eq_true rfl) (.cons rfl rfl (.one (.same _ (by simp)) rfl) (of_decide_eq_true rfl) (.cons rfl rfl (.one (.ag ⟨.same _ (by simp), .view rfl, trivial⟩) rfl) (of_decide_eq_true rfl) (.cons rfl rfl (.same (by simp)) (of_decide_eq_true rfl) (trivial)))))) ⟨⟨_, rfl, .ref rfl⟩, ⟨_, rfl, .ref rfl⟩, ⟨_, rfl, .ref rfl⟩, ⟨_, rfl, .same _ (by simp)⟩, ⟨_, rfl, .ref rfl⟩, ⟨_, rfl, .same _ (by simp)⟩, ⟨_, rfl, .same _ (by simp)⟩, ⟨_, rfl, .same _ (by simp)⟩, ⟨_, rfl, .same _ (by simp)⟩, ⟨_, rfl, .same _ (by simp)⟩, trivial⟩) ?_)
                        clear hK21 K21
                        refine awp_seqJ (fun (p : Bool) => (⟨[(1, .ref 0 0 0), (2, .ref 1 0 0), (3, .ref 2 0 0), (4, i64 k1019), (5, .ref 3 0 0), (6, i64 x1358), (7, i64 y1428), (47, .any), (48, .any), (49, .any), (50, .any), (51, bl p)], ⟨5, [(0, (2, [G.inquestref12_G.av g_0])), (1, (2, [.agg [i64 0, nilS]])), (2, (2, [.agg [i64 cN1017, .sl (List.map u64 cRows1018)]])), (3, (2, [.agg [i64 r1149.N, .view 4 0 (List.map u64 dRows1427).length]])), (4, (1, List.map u64 dRows1427))]⟩⟩ : St)) (fun (p : Bool) => G.inquestref13_Close_j6 x1358 dRows1427 y1428 p = some o3) ?_ ?_
                        · rintro v1450 h
                          replace h : G.inquestref13_Close_j6 x1358 dRows1427 y1428 v1450 = some o3 := h
                          unfold G.inquestref13_Close_j6 at h
                          show AWP _ _ _ _ ⟨[(1, .ref 0 0 0), (2, .ref 1 0 0), (3, .ref 2 0 0), (4, i64 k1019), (5, .ref 3 0 0), (6, i64 x1358), (7, i64 y1428), (47, .any), (48, .any), (49, .any), (50, .any), (51, bl v1450)], ⟨5, [(0, (2, [G.inquestref12_G.av g_0])), (1, (2, [.agg [i64 0, nilS]])), (2, (2, [.agg [i64 cN1017, .sl (List.map u64 cRows1018)]])), (3, (2, [.agg [i64 r1149.N, .view 4 0 (List.map u64 dRows1427).length]])), (4, (1, List.map u64 dRows1427))]⟩⟩ _
                          refine awp_cond rfl (fun hb1451 => ?_) (fun hb1451 => ?_)
                          · replace h := Sh.if_t h hb1451
                            refine awp_any (by kernel_rfl) (by kernel_rfl) rfl ?_
                            refine ARH.op rfl rfl (aop_field_ref rfl rfl rfl fd26_1 (by decide)) ?_
                            refine ARH.op (r := .view 4 0 (List.map u64 dRows1427).length) rfl rfl (aop_load_ref rfl rfl rfl rfl sz22 rfl) ?_
                            refine ARH.dry (r := i64 x1358) rfl (fun _ => aop_move (.inl rfl) rfl) ?_
                            refine ARH.drop (frx := [(1, _), (2, _), (3, _), (4, _), (5, _), (6, _), (7, _), (47, _), (48, _), (49, _), (50, _), (53, _), (54, _)]) ⟨rfl, rfl, rfl, rfl, rfl, rfl, rfl, rfl, rfl, rfl, rfl, rfl, rfl, trivial⟩ ?_
                            refine ARH.op rfl rfl (aop_field_ref rfl rfl rfl fd26_1 (by decide)) ?_
                            refine ARH.op (r := .view 4 0 (List.map u64 dRows1427).length) rfl rfl (aop_load_ref rfl rfl rfl rfl sz22 rfl) ?_
                            refine ARH.dry (r := i64 x1358) rfl (fun _ => aop_move (.inl rfl) rfl) ?_
                            refine ARH.drop (frx := [(1, _), (2, _), (3, _), (4, _), (5, _), (6, _), (7, _), (47, _), (48, _), (49, _), (50, _), (53, _), (54, _), (56, _), (57, _)]) ⟨rfl, rfl, rfl, rfl, rfl, rfl, rfl, rfl, rfl, rfl, rfl, rfl, rfl, rfl, rfl, trivial⟩ ?_
                            obtain ⟨x1452, hx1452, h⟩ := Sh.bind_some' h
                            obtain ⟨k1453, hi1453, hl1453⟩ := Sh.idx_some hx1452
                            refine ARH.op (r := .ref 4 k1453 0) rfl rfl (t_index_view u64 dRows1427 hi1453 hl1453 rfl rfl rfl rfl rfl el22 rfl) ?_
                            refine ARH.op (r := u64 x1452) rfl rfl (t_load_el u64 dRows1427 hl1453 rfl rfl rfl sz45 rfl) ?_
                            refine ARH.dry (r := i64 y1428) rfl (fun _ => aop_move (.inl rfl) rfl) ?_
                            refine ARH.drop (frx := [(1, _), (2, _), (3, _), (4, _), (5, _), (6, _), (7, _), (47, _), (48, _), (49, _), (50, _), (53, _), (54, _), (59, _), (60, _)]) ⟨rfl, rfl, rfl, rfl, rfl, rfl, rfl, rfl, rfl, rfl, rfl, rfl, rfl, rfl, rfl, trivial⟩ ?_
                            obtain ⟨r1454, hr1454, h⟩ := Sh.bind_some' h
                            refine ARH.op (r := u64 r1454) rfl rfl (aop_call1 rfl rfl (by simp) (inquestref10_With_ok hT hr1454)) ?_
                            obtain ⟨x1455, hx1455, h⟩ := Sh.bind_some' h
                            obtain ⟨k1456, hi1456, hl1456⟩ := Sh.idx_some hx1455
                            refine ARH.op (r := .ref 4 k1456 0) rfl rfl (t_index_view u64 dRows1427 hi1456 hl1456 rfl rfl rfl rfl rfl el22 rfl) ?_
                            refine ARH.loud rfl rfl rfl (t_store_el u64 dRows1427 r1454 hi1456 hl1456 rfl rfl rfl rfl rfl sz45 rfl (of_decide_eq_true rfl) rfl) ?_
                            refine ARH.nil ?_
                            exact hK18 (Sh.set dRows1427 x1358 r1454) _ h (Weak.re (fr' := [(1, .ref 0 0 0), (2, .ref 1 0 0), (3, .ref 2 0 0), (4, i64 k1019), (5, .ref 3 0 0), (6, i64 x1358), (7, i64 y1428), (47, .any), (48, .any), (49, .any), (50, .any)]) (H' := ⟨5, [(0, (2, [G.inquestref12_G.av g_0])), (1, (2, [.agg [i64 0, nilS]])), (2, (2, [.agg [i64 cN1017, .sl (List.map u64 cRows1018)]])), (3, (2, [.agg [i64 r1149.N, .view 4 0 (List.map u64 (Sh.set dRows1427 x1358 r1454)).length]])), (4, (1, List.map u64 (Sh.set dRows1427 x1358 r1454)))]⟩) [(0, 0), (1, 1), (2, 2), (3, 3), (4, 4)] [] rfl rfl rfl (.cons rfl rfl (.one (.same _ (by simp)) rfl) (of_decide_eq_true rfl) (.cons rfl rfl (.one (.same _ (by simp)) rfl) (of_decide_eq_true rfl) (.cons rfl rfl (.one (.same _ (by simp)) rfl) (of_decide_eq_true rfl) (.cons rfl rfl (.one (.ag ⟨.same _ (by simp), .viewL rfl (by simp []), trivial⟩) rfl) (of_decide_eq_true rfl) (.cons rfl rfl (.same (by simp)) (of_decide_eq_true rfl) (trivial)))))) ⟨⟨_, rfl, .ref rfl⟩, ⟨_, rfl, .ref rfl⟩, ⟨_, rfl, .ref rfl⟩, ⟨_, rfl, .same _ (by simp)⟩, ⟨_, rfl, .ref rfl⟩, ⟨_, rfl, .same _ (by simp)⟩, ⟨_, rfl, .same _ (by simp)⟩, ⟨_, rfl, .any _⟩, ⟨_, rfl, .any _⟩, ⟨_, rfl, .any _⟩, ⟨_, rfl, .any _⟩, trivial⟩)
                          · replace h := Sh.if_f h hb1451
                            refine awp_skip ?_
                            exact hK18 dRows1427 _ h (Weak.re (fr' := [(1, .ref 0 0 0), (2, .ref 1 0 0), (3, .ref 2 0 0), (4, i64 k1019), (5, .ref 3 0 0), (6, i64 x1358), (7, i64 y1428), (47, .any), (48, .any), (49, .any), (50, .any)]) (H' := ⟨5, [(0, (2, [G.inquestref12_G.av g_0])), (1, (2, [.agg [i64 0, nilS]])), (2, (2, [.agg [i64 cN1017, .sl (List.map u64 cRows1018)]])), (3, (2, [.agg [i64 r1149.N, .view 4 0 (List.map u64 dRows1427).length]])), (4, (1, List.map u64 dRows1427))]⟩) [(0, 0), (1, 1), (2, 2), (3, 3), (4, 4)] [] rfl rfl rfl (.cons rfl rfl (.one (.same _ (by simp)) rfl) (of_decide_eq_true rfl) (.cons rfl rfl (.one (.same _ (by simp)) rfl) (of_decide_eq_true rfl) (.cons rfl rfl (.one (.same _ (by simp)) rfl) (of_decide_eq_true rfl) (.cons rfl rfl (.one (.ag ⟨.same _ (by simp), .view rfl, trivial⟩) rfl) (of_decide_eq_true rfl) (.cons rfl rfl (.same (by simp)) (of_decide_eq_true rfl) (trivial)))))) ⟨⟨_, rfl, .ref rfl⟩, ⟨_, rfl, .ref rfl⟩, ⟨_, rfl, .ref rfl⟩, ⟨_, rfl, .same _ (by simp)⟩, ⟨_, rfl, .ref rfl⟩, ⟨_, rfl, .same _ (by simp)⟩, ⟨_, rfl, .same _ (by simp)⟩, ⟨_, rfl, .any _⟩, ⟨_, rfl, .any _⟩, ⟨_, rfl, .any _⟩, ⟨_, rfl, .any _⟩, trivial⟩)
                        · intro K22 hK22
                          refine awp_reg rfl ?_
                          refine AR.op (r := bl r1443) rfl (aop_move (.inl rfl) rfl) ?_
                          refine AR.op (r := bl r1443) rfl (aop_move (.inl rfl) rfl) ?_
                          rcases Bool.eq_false_or_eq_true (r1443) with hb1457 | hb1457
                          · rw [hb1457]
                            replace h := Sh.if_t h hb1457
                            refine AR.skip rfl ?_
                            refine AR.drop (frx := [(1, _), (2, _), (3, _), (4, _), (5, _), (6, _), (7, _), (10, _), (46, _), (47, _)]) ⟨rfl, rfl, rfl, rfl, rfl, rfl, rfl, rfl, rfl, rfl, trivial⟩ ?_
                            refine AR.skip rfl ?_
                            refine AR.skip rfl ?_
                            refine AR.skip rfl ?_
                            refine AR.drop (frx := [(1, _), (2, _), (3, _), (4, _), (5, _), (6, _), (7, _), (46, _), (47, _), (48, _), (49, _), (50, _)]) ⟨rfl, rfl, rfl, rfl, rfl, rfl, rfl, rfl, rfl, rfl, rfl, rfl, trivial⟩ ?_
                            refine AR.op (r := bl true) rfl (aop_pick rfl rfl rfl) ?_
                            refine AR.nil ?_
                            exact hK22 true _ h (Weak.re (fr' := [(1, .ref 0 0 0), (2, .ref 1 0 0), (3, .ref 2 0 0), (4, i64 k1019), (5, .ref 3 0 0), (6, i64 x1358), (7, i64 y1428), (47, .any), (48, .any), (49, .any), (50, .any), (51, bl true)]) (H' := ⟨5, [(0, (2, [G.inquestref12_G.av g_0])), (1, (2, [.agg [i64 0, nilS]])), (2, (2, [.agg [i64 cN1017, .sl (List.map u64 cRows1018)]])), (3, (2, [.agg [i64 r1149.N, .view 4 0 (List.map u64 dRows1427).length]])), (4, (1, List.map u64 dRows1427))]⟩) [(0, 0), (1, 1), (2, 2), (3, 3), (4, 4)] [] rfl rfl rfl (.cons rfl rfl (.one (.same _ (by simp)) rfl) (of_decide_eq_true rfl) (.cons rfl rfl (.one (.same _ (by simp)) rfl) (of_decide_eq_true rfl) (.cons rfl rfl (.one (.same _ (by simp)) rfl) (of_decide_eq_true rfl) (.cons rfl rfl (.one (.ag ⟨.same _ (by simp), .view rfl, trivial⟩) rfl) (of_decide_eq_true rfl) (.cons rfl rfl (.same (by simp)) (of_decide_eq_true rfl) (trivial)))))) ⟨⟨_, rfl, .ref rfl⟩, ⟨_, rfl, .ref rfl⟩, ⟨_, rfl, .ref rfl⟩, ⟨_, rfl, .same _ (by simp)⟩, ⟨_, rfl, .ref rfl⟩, ⟨_, rfl, .same _ (by simp)⟩, ⟨_, rfl, .same _ (by simp)⟩, ⟨_, rfl, .any _⟩, ⟨_, rfl, .any _⟩, ⟨_, rfl, .any _⟩, ⟨_, rfl, .any _⟩, ⟨_, rfl, .same _ (by simp)⟩, trivial⟩)
                          · rw [hb1457]
                            replace h := Sh.if_f h hb1457
                            refine AR.op (r := bl r1445) rfl (aop_move (.inl rfl) rfl) ?_
                            refine AR.drop (frx := [(1, _), (2, _), (3, _), (4, _), (5, _), (6, _), (7, _), (10, _), (46, _), (47, _)]) ⟨rfl, rfl, rfl, rfl, rfl, rfl, rfl, rfl, rfl, rfl, trivial⟩ ?_
                            refine AR.op (r := bl r1445) rfl (aop_move (.inl rfl) rfl) ?_
                            rcases Bool.eq_false_or_eq_true (r1445) with hb1458 | hb1458
                            · rw [hb1458]
                              replace h := Sh.if_t h hb1458
                              refine AR.op (r := bl r1447) rfl (aop_move (.inl rfl) rfl) ?_
                              refine AR.op (r := bl r1447) rfl (aop_pick rfl rfl rfl) ?_
                              refine AR.drop (frx := [(1, _), (2, _), (3, _), (4, _), (5, _), (6, _), (7, _), (46, _), (47, _), (48, _), (49, _), (50, _)]) ⟨rfl, rfl, rfl, rfl, rfl, rfl, rfl, rfl, rfl, rfl, rfl, rfl, trivial⟩ ?_
                              refine AR.op (r := bl r1447) rfl (aop_pick rfl rfl rfl) ?_
                              refine AR.nil ?_
                              exact hK22 r1447 _ h (Weak.re (fr' := [(1, .ref 0 0 0), (2, .ref 1 0 0), (3, .ref 2 0 0), (4, i64 k1019), (5, .ref 3 0 0), (6, i64 x1358), (7, i64 y1428), (47, .any), (48, .any), (49, .any), (50, .any), (51, bl r1447)]) (H' := ⟨5, [(0, (2, [G.inquestref12_G.av g_0])), (1, (2, [.agg [i64 0, nilS]])), (2, (2, [.agg [i64 cN1017, .sl (List.map u64 cRows1018)]])), (3, (2, [.agg [i64 r1149.N, .view 4 0 (List.map u64 dRows1427).length]])), (4, (1, List.map u64 dRows1427))]⟩) [(0, 0), (1, 1), (2, 2), (3, 3), (4, 4)] [] rfl rfl rfl (.cons rfl rfl (.one (.same _ (by simp)) rfl) (of_decide_eq_true rfl) (.cons rfl rfl (.one (.same _ (by simp)) rfl) (of_decide_eq_true rfl) (.cons rfl rfl (.one (.same _ (by simp)) rfl) (of_decide_eq_true rfl) (.cons rfl rfl (.one (.ag ⟨.same _ (by simp), .view rfl, trivial⟩) rfl) (of_decide_eq_true rfl) (.cons rfl rfl (.same (by simp)) (of_decide_eq_true rfl) (trivial)))))) ⟨⟨_, rfl, .ref rfl⟩, ⟨_, rfl, .ref rfl⟩, ⟨_, rfl, .ref rfl⟩, ⟨_, rfl, .same _ (by simp)⟩, ⟨_, rfl, .ref rfl⟩, ⟨_, rfl, .same _ (by simp)⟩, ⟨_, rfl, .same _ (by simp)⟩, ⟨_, rfl, .any _⟩, ⟨_, rfl, .any _⟩, ⟨_, rfl, .any _⟩, ⟨_, rfl, .any _⟩, ⟨_, rfl, .same _ (by simp)⟩, trivial⟩)
                            · rw [hb1458]
                              replace h := Sh.if_f h hb1458
                              refine AR.skip rfl ?_
                              refine AR.op (r := bl false) rfl (aop_pick rfl rfl rfl) ?_
                              refine AR.drop (frx := [(1, _), (2, _), (3, _), (4, _), (5, _), (6, _), (7, _), (46, _), (47, _), (48, _), (49, _), (50, _)]) ⟨rfl, rfl, rfl, rfl, rfl, rfl, rfl, rfl, rfl, rfl, rfl, rfl, trivial⟩ ?_
                              refine AR.op (r := bl false) rfl (aop_pick rfl rfl rfl) ?_
                              refine AR.nil ?_
                              exact hK22 false _ h (Weak.re (fr' := [(1, .ref 0 0 0), (2, .ref 1 0 0), (3, .ref 2 0 0), (4, i64 k1019), (5, .ref 3 0 0), (6, i64 x1358), (7, i64 y1428), (47, .any), (48, .any), (49, .any), (50, .any), (51, bl false)]) (H' := ⟨5, [(0, (2, [G.inquestref12_G.av g_0])), (1, (2, [.agg [i64 0, nilS]])), (2, (2, [.agg [i64 cN1017, .sl (List.map u64 cRows1018)]])), (3, (2, [.agg [i64 r1149.N, .view 4 0 (List.map u64 dRows1427).length]])), (4, (1, List.map u64 dRows1427))]⟩) [(0, 0), (1, 1), (2, 2), (3, 3), (4, 4)] [] rfl rfl rfl (.cons rfl rfl (.one (.same _ (by simp)) rfl) (of_decide_eq_true rfl) (.cons rfl rfl (.one (.same _ (by simp)) rfl) (of_decide_eq_true rfl) (.cons rfl rfl (.one (.same _ (by simp)) rfl) (of_decide_eq_true rfl) (.cons rfl rfl (.one (.ag ⟨.same _ (by simp), .view rfl, trivial⟩) rfl) (of_decide_eq_true rfl) (.cons rfl rfl (.same (by simp)) (of_decide_eq_true rfl) (trivial)))))) ⟨⟨_, rfl, .ref rfl⟩, ⟨_, rfl, .ref rfl⟩, ⟨_, rfl, .ref rfl⟩, ⟨_, rfl, .same _ (by simp)⟩, ⟨_, rfl, .ref rfl⟩, ⟨_, rfl, .same _ (by simp)⟩, ⟨_, rfl, .same _ (by simp)⟩, ⟨_, rfl, .any _⟩, ⟨_, rfl, .any _⟩, ⟨_, rfl, .any _⟩, ⟨_, rfl, .any _⟩, ⟨_, rfl, .same _ (by simp)⟩, trivial⟩)
                    · replace h := Sh.if_f h hb1429
                      refine awp_exit ?_
                      replace h := Sh.exit_eq h hx3
                      exact hK14 dRows1427 _ h (Weak.re (fr' := [(1, .ref 0 0 0), (2, .ref 1 0 0), (3, .ref 2 0 0), (4, i64 k1019), (5, .ref 3 0 0), (6, i64 x1358)]) (H' := ⟨5, [(0, (2, [G.inquestref12_G.av g_0])), (1, (2, [.agg [i64 0, nilS]])), (2, (2, [.agg [i64 cN1017, .sl (List.map u64 cRows1018)]])), (3, (2, [.agg [i64 r1149.N, .view 4 0 (List.map u64 dRows1427).length]])), (4, (1, List.map u64 dRows1427))]⟩) [(0, 0), (1, 1), (2, 2), (3, 3), (4, 4)] [] rfl rfl rfl (.cons rfl rfl (.one (.same _ (by simp)) rfl) (of_decide_eq_true rfl) (.cons rfl rfl (.one (.same _ (by simp)) rfl) (of_decide_eq_true rfl) (.cons rfl rfl (.one (.same _ (by simp)) rfl) (of_decide_eq_true rfl) (.cons rfl rfl (.one (.ag ⟨.same _ (by simp), .view rfl, trivial⟩) rfl) (of_decide_eq_true rfl) (.cons rfl rfl (.same (by simp)) (of_decide_eq_true rfl) (trivial)))))) ⟨⟨_, rfl, .ref rfl⟩, ⟨_, rfl, .ref rfl⟩, ⟨_, rfl, .ref rfl⟩, ⟨_, rfl, .same _ (by simp)⟩, ⟨_, rfl, .ref rfl⟩, ⟨_, rfl, .same _ (by simp)⟩, trivial⟩)
              · replace h := Sh.if_f h hb1359
                refine awp_exit ?_
                replace h := Sh.exit_eq h hx2
                exact hK10 dRows1357 _ h (Weak.re (fr' := [(1, .ref 0 0 0), (2, .ref 1 0 0), (3, .ref 2 0 0), (4, i64 k1019), (5, .ref 3 0 0)]) (H' := ⟨5, [(0, (2, [G.inquestref12_G.av g_0])), (1, (2, [.agg [i64 0, nilS]])), (2, (2, [.agg [i64 cN1017, .sl (List.map u64 cRows1018)]])), (3, (2, [.agg [i64 r1149.N, .view 4 0 (List.map u64 dRows1357).length]])), (4, (1, List.map u64 dRows1357))]⟩) [(0, 0), (1, 1), (2, 2), (3, 3), (4, 4)] [] rfl rfl rfl (.cons rfl rfl (.one (.same _ (by simp)) rfl) (of_decide_eq_true rfl) (.cons rfl rfl (.one (.same _ (by simp)) rfl) (of_decide_eq_true rfl) (.cons rfl rfl (.one (.same _ (by simp)) rfl) (of_decide_eq_true rfl) (.cons rfl rfl (.one (.ag ⟨.same _ (by simp), .view rfl, trivial⟩) rfl) (of_decide_eq_true rfl) (.cons rfl rfl (.same (by simp)) (of_decide_eq_true rfl) (trivial)))))) ⟨⟨_, rfl, .ref rfl⟩, ⟨_, rfl, .ref rfl⟩, ⟨_, rfl, .ref rfl⟩, ⟨_, rfl, .same _ (by simp)⟩, ⟨_, rfl, .ref rfl⟩, trivial⟩)
      · replace h := Sh.if_f h hb1020
        refine awp_exit ?_
        replace h := Sh.exit_eq h hx1
        exact hK4 (G.inquestref12_G.mk cN1017 cRows1018) _ h (Weak.re (fr' := [(2, .ref 0 0 0), (3, .ref 1 0 0)]) (H' := ⟨2, [(0, (2, [.agg [i64 0, nilS]])), (1, (2, [G.inquestref12_G.av (G.inquestref12_G.mk cN1017 cRows1018)]))]⟩) [(0, 1), (1, 2)] [] rfl rfl rfl (.cons rfl rfl (.one (.same _ (by simp)) rfl) (of_decide_eq_true rfl) (.cons rfl rfl (.one (.same _ (by simp)) rfl) (of_decide_eq_true rfl) (trivial))) ⟨⟨_, rfl, .ref rfl⟩, ⟨_, rfl, .ref rfl⟩, trivial⟩)
theorem inquestref13_Close_ok {W0 : World} (hT : Tab W0) {g_0 : G.inquestref12_G} {r : G.inquestref12_G} (h : G.inquestref13_Close g_0 = some r) : Fun1 Tryd.prog W0 35 [G.inquestref12_G.av g_0] (G.inquestref12_G.av r) := Fun1.two (inquestref13_Close_ok0 hT h) (by simp)


set_option maxHeartbeats 8000000 in
theorem inquestref13_Cyclic_ok0 {W0 : World} (hT : Tab W0) {g_0 : G.inquestref12_G} {r : Bool} (h : G.inquestref13_Cyclic g_0 = some r) : Fun2 Tryd.prog W0 36 [G.inquestref12_G.av g_0] (bl r) .empty := by
  refine fun2_of_awp Tryd.func36 rfl (by kernel_rfl) Tryd.ntmps36 (by simp) ?_
  unfold G.inquestref13_Cyclic at h
  show AWP _ _ _ _ ⟨[(0, G.inquestref12_G.av g_0)], .empty⟩ _
  refine awp_seqK fun K1 hK1 => ?_
  refine awp_reg rfl ?_
  refine AR.op (r := .ref 0 0 0) rfl (aop_box 2 [G.inquestref12_G.av g_0] rfl rfl rfl (.inl ⟨rfl, rfl⟩)) ?_
  refine AR.op (r := bl false) rfl (aop_move (.inr rfl) rfl) ?_
  refine AR.nil ?_
  refine hK1 _ (AWP.weak (Weak.re (fr' := [(1, .ref 0 0 0)]) (H' := ⟨1, [(0, (2, [G.inquestref12_G.av g_0]))]⟩) [(0, 0)] [] rfl rfl rfl (.cons rfl rfl (.one (.same _ (by simp)) rfl) (of_decide_eq_true rfl) (trivial)) ⟨⟨_, rfl, .ref rfl⟩, trivial⟩) ?_)
  clear hK1 K1
  refine awp_seqK fun K2 hK2 => ?_
  refine awp_reg rfl ?_
  refine AR.op (r := G.inquestref12_G.av g_0) rfl (aop_load_ref rfl rfl rfl rfl sz26 rfl) ?_
  obtain ⟨r9, hr9, h⟩ := Sh.bind_some' h
  refine AR.op (r := bl r9) rfl (aop_call1 rfl rfl (by simp) (inquestref12_Right_ok hT hr9)) ?_
  refine AR.op (r := bl r9) rfl (aop_move (.inr rfl) rfl) ?_
  refine AR.nil ?_
  refine hK2 _ (AWP.weak (Weak.re (fr' := [(1, .ref 0 0 0), (3, bl r9)]) (H' := ⟨1, [(0, (2, [G.inquestref12_G.av g_0]))]⟩) [(0, 0)] [] rfl rfl rfl (.cons rfl rfl (.one (.same _ (by simp)) rfl) (of_decide_eq_true rfl) (trivial)) ⟨⟨_, rfl, .ref rfl⟩, ⟨_, rfl, .same _ (by simp)⟩, trivial⟩) ?_)
  clear hK2 K2
  refine awp_seqK fun K3 hK3 => ?_
  refine awp_seqK fun K4 hK4 => ?_
  refine awp_reg rfl ?_
  refine AR.op (r := bl r9) rfl (aop_move (.inl rfl) rfl) ?_
  refine AR.op (r := bl (!r9)) rfl (aop_not rfl rfl) ?_
  refine AR.nil ?_
  refine hK4 _ (AWP.weak (Weak.re (fr' := [(1, .ref 0 0 0), (10, bl (!r9))]) (H' := ⟨1, [(0, (2, [G.inquestref12_G.av g_0]))]⟩) [(0, 0)] [] rfl rfl rfl (.cons rfl rfl (.one (.same _ (by simp)) rfl) (of_decide_eq_true rfl) (trivial)) ⟨⟨_, rfl, .ref rfl⟩, ⟨_, rfl, .same _ (by simp)⟩, trivial⟩) ?_)
  clear hK4 K4
  refine awp_cond rfl (fun hb10 => ?_) (fun hb10 => ?_)
  · replace h := Sh.if_t h hb10
    refine awp_seqK fun K5 hK5 => ?_
    refine awp_reg rfl ?_
    refine AR.op (r := bl false) rfl (aop_move (.inr rfl) rfl) ?_
    refine AR.nil ?_
    refine hK5 _ (AWP.weak (Weak.re (fr' := [(2, bl false)]) (H' := .empty) [] [] rfl rfl rfl (trivial) ⟨⟨_, rfl, .same _ (by simp)⟩, trivial⟩) ?_)
    clear hK5 K5
    refine awp_ret ?_
    obtain rfl := Option.some.inj h
    refine ⟨.inr rfl, bl false, rfl, ?_⟩
    exact Weak.re [] [] rfl rfl rfl (trivial) ⟨⟨_, rfl, .same _ (by simp)⟩, trivial⟩
  · replace h := Sh.if_f h hb10
    refine awp_skip ?_
    refine hK3 _ (AWP.weak (Weak.re (fr' := [(1, .ref 0 0 0)]) (H' := ⟨1, [(0, (2, [G.inquestref12_G.av g_0]))]⟩) [(0, 0)] [] rfl rfl rfl (.cons rfl rfl (.one (.same _ (by simp)) rfl) (of_decide_eq_true rfl) (trivial)) ⟨⟨_, rfl, .ref rfl⟩, trivial⟩) ?_)
    clear hK3 K3
    refine awp_seqK fun K6 hK6 => ?_
    refine awp_reg rfl ?_
    refine AR.op (r := G.inquestref12_G.av g_0) rfl (aop_load_ref rfl rfl rfl rfl sz26 rfl) ?_
    obtain ⟨r12, hr12, h⟩ := Sh.bind_some' h
    refine AR.op (r := G.inquestref12_G.av r12) rfl (aop_call1 rfl rfl (by simp) (inquestref13_Close_ok hT hr12)) ?_
    refine AR.op (r := .ref 1 0 0) rfl (aop_alloc 2 [.agg [i64 0, nilS]] rfl zr26 (by kernel_rfl) (.inl ⟨rfl, rfl⟩)) ?_
    refine AR.drop (frx := [(1, _), (12, _), (4, _)]) ⟨rfl, rfl, rfl, trivial⟩ ?_
    refine AR.op rfl (aop_store (e' := G.inquestref12_G.av r12) rfl rfl rfl rfl rfl rfl sz26 rfl (of_decide_eq_true rfl) rfl) ?_
    refine AR.nil ?_
    refine hK6 _ (AWP.weak (Weak.re (fr' := [(1, .ref 0 0 0), (4, .ref 1 0 0)]) (H' := ⟨2, [(0, (2, [G.inquestref12_G.av g_0])), (1, (2, [G.inquestref12_G.av r12]))]⟩) [(0, 0), (1, 1)] [] rfl rfl rfl (.cons rfl rfl (.one (.same _ (by simp)) rfl) (of_decide_eq_true rfl) (.cons rfl rfl (.one (.same _ (by simp)) rfl) (of_decide_eq_true rfl) (trivial))) ⟨⟨_, rfl, .ref rfl⟩, ⟨_, rfl, .ref rfl⟩, trivial⟩) ?_)
    clear hK6 K6
    refine awp_seqJ (fun (p : Unit) => (⟨[], .empty⟩ : St)) (fun (p : Unit) => G.inquestref13_Cyclic_j1 = some r) ?_ ?_
    · rintro ⟨⟩ h
      replace h : G.inquestref13_Cyclic_j1 = some r := h
      unfold G.inquestref13_Cyclic_j1 at h
      show AWP _ _ _ _ ⟨[], .empty⟩ _
      refine awp_seqK fun K7 hK7 => ?_
      refine awp_reg rfl ?_
      refine AR.op (r := bl false) rfl (aop_move (.inr rfl) rfl) ?_
      refine AR.nil ?_
      refine hK7 _ ?_
      clear hK7 K7
      refine awp_ret ?_
      obtain rfl := Option.some.inj h
      refine ⟨.inr rfl, bl false, rfl, ?_⟩
      exact Weak.re [] [] rfl rfl rfl (trivial) ⟨⟨_, rfl, .same _ (by simp)⟩, trivial⟩
    · intro K8 hK8
      refine awp_seqK fun K9 hK9 => ?_
      refine awp_reg rfl ?_
      refine AR.op (r := i64 0) rfl (aop_move (.inr rfl) rfl) ?_
      refine AR.nil ?_
      refine hK9 _ ?_
      clear hK9 K9
      refine awp_block ?_
      refine awp_iter (fun (p : Int) => G.inquestref13_Cyclic_b1 g_0 r12 p) (fun (p : Int) => (⟨[(1, .ref 0 0 0), (4, .ref 1 0 0), (5, i64 p)], ⟨2, [(0, (2, [G.inquestref12_G.av g_0])), (1, (2, [G.inquestref12_G.av r12]))]⟩⟩ : St)) h (Weak.re (fr' := [(1, .ref 0 0 0), (4, .ref 1 0 0), (5, i64 0)]) (H' := ⟨2, [(0, (2, [G.inquestref12_G.av g_0])), (1, (2, [G.inquestref12_G.av r12]))]⟩) [(0, 0), (1, 1)] [] rfl rfl rfl (.cons rfl rfl (.one (.same _ (by simp)) rfl) (of_decide_eq_true rfl) (.cons rfl rfl (.one (.same _ (by simp)) rfl) (of_decide_eq_true rfl) (trivial))) ⟨⟨_, rfl, .ref rfl⟩, ⟨_, rfl, .ref rfl⟩, ⟨_, rfl, .same _ (by simp)⟩, trivial⟩) ?_
      · skip
        rintro x21 o1 h hx1
        replace h : G.inquestref13_Cyclic_b1 g_0 r12 x21 = some o1 := h
        unfold G.inquestref13_Cyclic_b1 at h
        show AWP _ _ _ _ ⟨[(1, .ref 0 0 0), (4, .ref 1 0 0), (5, i64 x21)], ⟨2, [(0, (2, [G.inquestref12_G.av g_0])), (1, (2, [G.inquestref12_G.av r12]))]⟩⟩ _
        refine awp_seqK fun K10 hK10 => ?_
        refine awp_seqK fun K11 hK11 => ?_
        refine awp_reg rfl ?_
        refine AR.op (r := i64 x21) rfl (aop_move (.inl rfl) rfl) ?_
        refine AR.op rfl (aop_field_ref rfl rfl rfl fd26_0 (by decide)) ?_
        refine AR.op (r := i64 g_0.N) rfl (aop_load_ref rfl rfl rfl rfl sz3 rfl) ?_
        refine AR.drop (frx := [(1, _), (4, _), (5, _), (13, _), (15, _)]) ⟨rfl, rfl, rfl, rfl, rfl, trivial⟩ ?_
        refine AR.op (r := bl (decide (x21 < g_0.N))) rfl (aop_lss rfl rfl rfl) ?_
        refine AR.nil ?_
        refine hK11 _ (AWP.weak (Weak.re (fr' := [(1, .ref 0 0 0), (4, .ref 1 0 0), (5, i64 x21), (16, bl (decide (x21 < g_0.N)))]) (H' := ⟨2, [(0, (2, [G.inquestref12_G.av g_0])), (1, (2, [G.inquestref12_G.av r12]))]⟩) [(0, 0), (1, 1)] [] rfl rfl rfl (.cons rfl rfl (.one (.same _ (by simp)) rfl) (of_decide_eq_true rfl) (.cons rfl rfl (.one (.same _ (by simp)) rfl) (of_decide_eq_true rfl) (trivial))) ⟨⟨_, rfl, .ref rfl⟩, ⟨_, rfl, .ref rfl⟩, ⟨_, rfl, .same _ (by simp)⟩, ⟨_, rfl, .same _ (by simp)⟩, trivial⟩) ?_)
        clear hK11 K11
        refine awp_cond rfl (fun hb22 => ?_) (fun hb22 => ?_)
        · replace h := Sh.if_t h hb22
          refine awp_skip ?_
          refine hK10 _ (AWP.weak (Weak.re (fr' := [(1, .ref 0 0 0), (4, .ref 1 0 0), (5, i64 x21)]) (H' := ⟨2, [(0, (2, [G.inquestref12_G.av g_0])), (1, (2, [G.inquestref12_G.av r12]))]⟩) [(0, 0), (1, 1)] [] rfl rfl rfl (.cons rfl rfl (.one (.same _ (by simp)) rfl) (of_decide_eq_true rfl) (.cons rfl rfl (.one (.same _ (by simp)) rfl) (of_decide_eq_true rfl) (trivial))) ⟨⟨_, rfl, .ref rfl⟩, ⟨_, rfl, .ref rfl⟩, ⟨_, rfl, .same _ (by simp)⟩, trivial⟩) ?_)
          clear hK10 K10
          refine awp_seqK fun K12 hK12 => ?_
          refine awp_block ?_
          refine awp_seqK fun K13 hK13 => ?_
          refine awp_reg rfl ?_
          refine AR.op (r := G.inquestref12_G.av r12) rfl (aop_load_ref rfl rfl rfl rfl sz26 rfl) ?_
          refine AR.op (r := i64 x21) rfl (aop_move (.inl rfl) rfl) ?_
          refine AR.op (r := i64 x21) rfl (aop_move (.inl rfl) rfl) ?_
          refine AR.drop (frx := [(1, _), (4, _), (5, _), (19, _), (20, _), (21, _)]) ⟨rfl, rfl, rfl, rfl, rfl, rfl, trivial⟩ ?_
          obtain ⟨r25, hr25, h⟩ := Sh.bind_some' h
          refine AR.op (r := bl r25) rfl (aop_call1 rfl rfl (by simp) (inquestref12_Has_ok hT hr25)) ?_
          refine AR.op (r := bl r25) rfl (aop_move (.inr rfl) rfl) ?_
          refine AR.nil ?_
          refine hK13 _ (AWP.weak (Weak.re (fr' := [(1, .ref 0 0 0), (4, .ref 1 0 0), (5, i64 x21), (6, bl r25)]) (H' := ⟨2, [(0, (2, [G.inquestref12_G.av g_0])), (1, (2, [G.inquestref12_G.av r12]))]⟩) [(0, 0), (1, 1)] [] rfl rfl rfl (.cons rfl rfl (.one (.same _ (by simp)) rfl) (of_decide_eq_true rfl) (.cons rfl rfl (.one (.same _ (by simp)) rfl) (of_decide_eq_true rfl) (trivial))) ⟨⟨_, rfl, .ref rfl⟩, ⟨_, rfl, .ref rfl⟩, ⟨_, rfl, .same _ (by simp)⟩, ⟨_, rfl, .same _ (by simp)⟩, trivial⟩) ?_)
          clear hK13 K13
          refine awp_seqK fun K14 hK14 => ?_
          refine awp_reg rfl ?_
          refine AR.op (r := bl r25) rfl (aop_move (.inl rfl) rfl) ?_
          refine AR.nil ?_
          refine hK14 _ (AWP.weak (Weak.re (fr' := [(1, .ref 0 0 0), (4, .ref 1 0 0), (5, i64 x21), (23, bl r25)]) (H' := ⟨2, [(0, (2, [G.inquestref12_G.av g_0])), (1, (2, [G.inquestref12_G.av r12]))]⟩) [(0, 0), (1, 1)] [] rfl rfl rfl (.cons rfl rfl (.one (.same _ (by simp)) rfl) (of_decide_eq_true rfl) (.cons rfl rfl (.one (.same _ (by simp)) rfl) (of_decide_eq_true rfl) (trivial))) ⟨⟨_, rfl, .ref rfl⟩, ⟨_, rfl, .ref rfl⟩, ⟨_, rfl, .same _ (by simp)⟩, ⟨_, rfl, .same _ (by simp)⟩, trivial⟩) ?_)
          clear hK14 K14
          refine awp_cond rfl (fun hb26 => ?_) (fun hb26 => ?_)
          · replace h := Sh.if_t h hb26
            refine awp_seqK fun K15 hK15 => ?_
            refine awp_reg rfl ?_
            refine AR.op (r := bl true) rfl (aop_move (.inr rfl) rfl) ?_
            refine AR.nil ?_
            refine hK15 _ (AWP.weak (Weak.re (fr' := [(2, bl true)]) (H' := .empty) [] [] rfl rfl rfl (trivial) ⟨⟨_, rfl, .same _ (by simp)⟩, trivial⟩) ?_)
            clear hK15 K15
            refine awp_ret ?_
            replace h := Sh.exit_eq h hx1
            obtain rfl := Option.some.inj h
            refine ⟨.inr rfl, bl true, rfl, ?_⟩
            exact Weak.re [] [] rfl rfl rfl (trivial) ⟨⟨_, rfl, .same _ (by simp)⟩, trivial⟩
          · replace h := Sh.if_f h hb26
            refine awp_skip ?_
            refine hK12 _ (AWP.weak (Weak.re (fr' := [(1, .ref 0 0 0), (4, .ref 1 0 0), (5, i64 x21)]) (H' := ⟨2, [(0, (2, [G.inquestref12_G.av g_0])), (1, (2, [G.inquestref12_G.av r12]))]⟩) [(0, 0), (1, 1)] [] rfl rfl rfl (.cons rfl rfl (.one (.same _ (by simp)) rfl) (of_decide_eq_true rfl) (.cons rfl rfl (.one (.same _ (by simp)) rfl) (of_decide_eq_true rfl) (trivial))) ⟨⟨_, rfl, .ref rfl⟩, ⟨_, rfl, .ref rfl⟩, ⟨_, rfl, .same _ (by simp)⟩, trivial⟩) ?_)
            clear hK12 K12
            refine awp_reg rfl ?_
            refine AR.op (r := i64 x21) rfl (aop_move (.inl rfl) rfl) ?_
            refine AR.op (r := i64 (w64 (x21 + 1))) rfl (aop_add rfl rfl rfl rfl) ?_
            refine AR.op (r := i64 (w64 (x21 + 1))) rfl (aop_move (.inr rfl) rfl) ?_
            refine AR.nil ?_
            replace h := Sh.next_eq h
            exact ⟨_, h, Weak.re (fr' := [(1, .ref 0 0 0), (4, .ref 1 0 0), (5, i64 (w64 (x21 + 1)))]) (H' := ⟨2, [(0, (2, [G.inquestref12_G.av g_0])), (1, (2, [G.inquestref12_G.av r12]))]⟩) [(0, 0), (1, 1)] [] rfl rfl rfl (.cons rfl rfl (.one (.same _ (by simp)) rfl) (of_decide_eq_true rfl) (.cons rfl rfl (.one (.same _ (by simp)) rfl) (of_decide_eq_true rfl) (trivial))) ⟨⟨_, rfl, .ref rfl⟩, ⟨_, rfl, .ref rfl⟩, ⟨_, rfl, .same _ (by simp)⟩, trivial⟩⟩
        · replace h := Sh.if_f h hb22
          refine awp_exit ?_
          replace h := Sh.exit_eq h hx1
          exact hK8 () _ h (Weak.re (fr' := []) (H' := .empty) [] [] rfl rfl rfl (trivial) trivial)
theorem inquestref13_Cyclic_ok {W0 : World} (hT : Tab W0) {g_0 : G.inquestref12_G} {r : Bool} (h : G.inquestref13_Cyclic g_0 = some r) : Fun1 Tryd.prog W0 36 [G.inquestref12_G.av g_0] (bl r) := Fun1.two (inquestref13_Cyclic_ok0 hT h) (by simp)


set_option maxHeartbeats 8000000 in
theorem inquestref13_More_own {W0 : World} (hT : Tab W0) {c_0 : G.inquestref12_G} {a_1 : Int} {b_2 : Int} {r : G.inquestref12_G} (h : G.inquestref13_More c_0 a_1 b_2 = some r) : Fun2 Tryd.prog W0 37 [G.inquestref12_G.av c_0, i64 a_1, i64 b_2] (.agg [i64 r.N, .view 0 0 (List.map u64 r.Rows).length]) ⟨1, [(0, (1, List.map u64 r.Rows))]⟩ := by
  refine fun2_of_awp Tryd.func37 rfl (by kernel_rfl) Tryd.ntmps37 (by simp) ?_
  unfold G.inquestref13_More at h
  show AWP _ _ _ _ ⟨[(0, G.inquestref12_G.av c_0), (1, i64 a_1), (2, i64 b_2)], .empty⟩ _
  refine awp_seqK fun K1 hK1 => ?_
  refine awp_reg rfl ?_
  refine AR.op (r := .ref 0 0 0) rfl (aop_box 2 [G.inquestref12_G.av c_0] rfl rfl rfl (.inl ⟨rfl, rfl⟩)) ?_
  refine AR.op (r := .ref 1 0 0) rfl (aop_alloc 2 [.agg [i64 0, nilS]] rfl zr26 (by kernel_rfl) (.inl ⟨rfl, rfl⟩)) ?_
  refine AR.nil ?_
  refine hK1 _ (AWP.weak (Weak.re (fr' := [(1, i64 a_1), (2, i64 b_2), (3, .ref 0 0 0), (6, .ref 1 0 0)]) (H' := ⟨2, [(0, (2, [G.inquestref12_G.av c_0])), (1, (2, [.agg [i64 0, nilS]]))]⟩) [(0, 0), (1, 1)] [] rfl rfl rfl (.cons rfl rfl (.one (.same _ (by simp)) rfl) (of_decide_eq_true rfl) (.cons rfl rfl (.one (.same _ (by simp)) rfl) (of_decide_eq_true rfl) (trivial))) ⟨⟨_, rfl, .same _ (by simp)⟩, ⟨_, rfl, .same _ (by simp)⟩, ⟨_, rfl, .ref rfl⟩, ⟨_, rfl, .ref rfl⟩, trivial⟩) ?_)
  clear hK1 K1
  refine awp_seqK fun K2 hK2 => ?_
  refine awp_reg rfl ?_
  refine AR.op rfl (aop_field_ref rfl rfl rfl fd26_0 (by decide)) ?_
  refine AR.op (r := i64 c_0.N) rfl (aop_load_ref rfl rfl rfl rfl sz3 rfl) ?_
  obtain ⟨r145, hr145, h⟩ := Sh.bind_some' h
  refine AR.op (r := .agg [i64 r145.N, .view 2 0 (List.map u64 r145.Rows).length]) rfl (aop_call2N (.agg [i64 r145.N, .view 2 0 (List.map u64 r145.Rows).length]) [(2, (1, List.map u64 r145.Rows))] rfl (ys := [i64 c_0.N]) (xs := [i64 c_0.N]) rfl (Weak.refl _) rfl (by simp) (inquestref12_New_own hT hr145) (.ag ⟨.same _ (by simp), .view _ _ _, trivial⟩) ⟨rfl, rfl, .same (by simp [AV.flat]), trivial⟩) ?_
  refine AR.drop (frx := [(1, _), (2, _), (3, _), (6, _), (15, _)]) ⟨rfl, rfl, rfl, rfl, rfl, trivial⟩ ?_
  refine AR.op (r := .ref 3 0 0) rfl (aop_alloc 2 [.agg [i64 0, nilS]] rfl zr26 (by kernel_rfl) (.inl ⟨rfl, rfl⟩)) ?_
  refine AR.op rfl (aop_store (e' := .agg [i64 r145.N, .view 2 0 (List.map u64 r145.Rows).length]) rfl rfl rfl rfl rfl rfl sz26 rfl (of_decide_eq_true rfl) rfl) ?_
  refine AR.nil ?_
  refine hK2 _ (AWP.weak (Weak.re (fr' := [(1, i64 a_1), (2, i64 b_2), (3, .ref 0 0 0), (6, .ref 1 0 0), (7, .ref 2 0 0)]) (H' := ⟨4, [(0, (2, [G.inquestref12_G.av c_0])), (1, (2, [.agg [i64 0, nilS]])), (2, (2, [.agg [i64 r145.N, .view 3 0 (List.map u64 r145.Rows).length]])), (3, (1, List.map u64 r145.Rows))]⟩) [(0, 0), (1, 1), (2, 3), (3, 2)] [] rfl rfl rfl (.cons rfl rfl (.one (.same _ (by simp)) rfl) (of_decide_eq_true rfl) (.cons rfl rfl (.one (.same _ (by simp)) rfl) (of_decide_eq_true rfl) (.cons rfl rfl (.one (.ag ⟨.same _ (by simp), .view rfl, trivial⟩) rfl) (of_decide_eq_true rfl) (.cons rfl rfl (.same (by simp)) (of_decide_eq_true rfl) (trivial))))) ⟨⟨_, rfl, .same _ (by simp)⟩, ⟨_, rfl, .same _ (by simp)⟩, ⟨_, rfl, .ref rfl⟩, ⟨_, rfl, .ref rfl⟩, ⟨_, rfl, .ref rfl⟩, trivial⟩) ?_)
  clear hK2 K2
  refine awp_seqJ (fun (p : (List (BitVec 64))) => (⟨[(6, .ref 0 0 0), (7, .ref 1 0 0)], ⟨3, [(0, (2, [.agg [i64 0, nilS]])), (1, (2, [.agg [i64 r145.N, .view 2 0 (List.map u64 p).length]])), (2, (1, List.map u64 p))]⟩⟩ : St)) (fun (p : (List (BitVec 64))) => G.inquestref13_More_j1 r145 p = some r) ?_ ?_
  · rintro v288 h
    replace h : G.inquestref13_More_j1 r145 v288 = some r := h
    unfold G.inquestref13_More_j1 at h
    show AWP _ _ _ _ ⟨[(6, .ref 0 0 0), (7, .ref 1 0 0)], ⟨3, [(0, (2, [.agg [i64 0, nilS]])), (1, (2, [.agg [i64 r145.N, .view 2 0 (List.map u64 v288).length]])), (2, (1, List.map u64 v288))]⟩⟩ _
    refine awp_seqK fun K3 hK3 => ?_
    refine awp_reg rfl ?_
    refine AR.op (r := .agg [i64 r145.N, .view 2 0 (List.map u64 v288).length]) rfl (aop_load_ref rfl rfl rfl rfl sz26 rfl) ?_
    refine AR.op rfl (aop_store (e' := .agg [i64 r145.N, .view 2 0 (List.map u64 v288).length]) rfl rfl rfl rfl rfl rfl sz26 rfl (of_decide_eq_true rfl) rfl) ?_
    refine AR.nil ?_
    refine hK3 _ (AWP.weak (Weak.re (fr' := [(6, .ref 0 0 0)]) (H' := ⟨2, [(0, (2, [.agg [i64 r145.N, .view 1 0 (List.map u64 v288).length]])), (1, (1, List.map u64 v288))]⟩) [(0, 0), (1, 2)] [] rfl rfl rfl (.cons rfl rfl (.one (.ag ⟨.same _ (by simp), .view rfl, trivial⟩) rfl) (of_decide_eq_true rfl) (.cons rfl rfl (.same (by simp)) (of_decide_eq_true rfl) (trivial))) ⟨⟨_, rfl, .ref rfl⟩, trivial⟩) ?_)
    clear hK3 K3
    refine awp_ret ?_
    obtain rfl := Option.some.inj h
    refine ⟨.inr rfl, .agg [i64 r145.N, .view 1 0 (List.map u64 v288).length], rfl, ?_⟩
    exact Weak.re [(0, 1)] [] rfl rfl rfl (.cons rfl rfl (.same (by simp)) (of_decide_eq_true rfl) (trivial)) ⟨⟨.agg [i64 r145.N, .view 1 0 (List.map u64 v288).length], rfl, .ag ⟨.same _ (by simp), .view rfl, trivial⟩⟩, trivial⟩
  · intro K4 hK4
    refine awp_seqK fun K5 hK5 => ?_
    refine awp_reg rfl ?_
    refine AR.op (r := i64 0) rfl (aop_move (.inr rfl) rfl) ?_
    refine AR.nil ?_
    refine hK5 _ ?_
    clear hK5 K5
    refine awp_block ?_
    refine awp_iter (fun (p : (List (BitVec 64)) × Int) => G.inquestref13_More_b1 c_0 a_1 b_2 r145 p.1 p.2) (fun (p : (List (BitVec 64)) × Int) => (⟨[(1, i64 a_1), (2, i64 b_2), (3, .ref 0 0 0), (6, .ref 1 0 0), (7, .ref 2 0 0), (8, i64 p.2)], ⟨4, [(0, (2, [G.inquestref12_G.av c_0])), (1, (2, [.agg [i64 0, nilS]])), (2, (2, [.agg [i64 r145.N, .view 3 0 (List.map u64 p.1).length]])), (3, (1, List.map u64 p.1))]⟩⟩ : St)) h (Weak.re (fr' := [(1, i64 a_1), (2, i64 b_2), (3, .ref 0 0 0), (6, .ref 1 0 0), (7, .ref 2 0 0), (8, i64 0)]) (H' := ⟨4, [(0, (2, [G.inquestref12_G.av c_0])), (1, (2, [.agg [i64 0, nilS]])), (2, (2, [.agg [i64 r145.N, .view 3 0 (List.map u64 r145.Rows).length]])), (3, (1, List.map u64 r145.Rows))]⟩) [(0, 0), (1, 1), (2, 2), (3, 3)] [] rfl rfl rfl (.cons rfl rfl (.one (.same _ (by simp)) rfl) (of_decide_eq_true rfl) (.cons rfl rfl (.one (.same _ (by simp)) rfl) (of_decide_eq_true rfl) (.cons rfl rfl (.one (.ag ⟨.same _ (by simp), .view rfl, trivial⟩) rfl) (of_decide_eq_true rfl) (.cons rfl rfl (.same (by simp)) (of_decide_eq_true rfl) (trivial))))) ⟨⟨_, rfl, .same _ (by simp)⟩, ⟨_, rfl, .same _ (by simp)⟩, ⟨_, rfl, .ref rfl⟩, ⟨_, rfl, .ref rfl⟩, ⟨_, rfl, .ref rfl⟩, ⟨_, rfl, .same _ (by simp)⟩, trivial⟩) ?_
    · skip
      rintro ⟨dRows383, x384⟩ o1 h hx1
      replace h : G.inquestref13_More_b1 c_0 a_1 b_2 r145 dRows383 x384 = some o1 := h
      unfold G.inquestref13_More_b1 at h
      show AWP _ _ _ _ ⟨[(1, i64 a_1), (2, i64 b_2), (3, .ref 0 0 0), (6, .ref 1 0 0), (7, .ref 2 0 0), (8, i64 x384)], ⟨4, [(0, (2, [G.inquestref12_G.av c_0])), (1, (2, [.agg [i64 0, nilS]])), (2, (2, [.agg [i64 r145.N, .view 3 0 (List.map u64 dRows383).length]])), (3, (1, List.map u64 dRows383))]⟩⟩ _
      refine awp_seqK fun K6 hK6 => ?_
      refine awp_seqK fun K7 hK7 => ?_
      refine awp_reg rfl ?_
      refine AR.op (r := i64 x384) rfl (aop_move (.inl rfl) rfl) ?_
      refine AR.op rfl (aop_field_ref rfl rfl rfl fd26_0 (by decide)) ?_
      refine AR.op (r := i64 c_0.N) rfl (aop_load_ref rfl rfl rfl rfl sz3 rfl) ?_
      refine AR.drop (frx := [(1, _), (2, _), (3, _), (6, _), (7, _), (8, _), (16, _), (18, _)]) ⟨rfl, rfl, rfl, rfl, rfl, rfl, rfl, rfl, trivial⟩ ?_
      refine AR.op (r := bl (decide (x384 < c_0.N))) rfl (aop_lss rfl rfl rfl) ?_
      refine AR.nil ?_
      refine hK7 _ (AWP.weak (Weak.re (fr' := [(1, i64 a_1), (2, i64 b_2), (3, .ref 0 0 0), (6, .ref 1 0 0), (7, .ref 2 0 0), (8, i64 x384), (19, bl (decide (x384 < c_0.N)))]) (H' := ⟨4, [(0, (2, [G.inquestref12_G.av c_0])), (1, (2, [.agg [i64 0, nilS]])), (2, (2, [.agg [i64 r145.N, .view 3 0 (List.map u64 dRows383).length]])), (3, (1, List.map u64 dRows383))]⟩) [(0, 0), (1, 1), (2, 2), (3, 3)] [] rfl rfl rfl (.cons rfl rfl (.one (.same _ (by simp)) rfl) (of_decide_eq_true rfl) (.cons rfl rfl (.one (.same _ (by simp)) rfl) (of_decide_eq_true rfl) (.cons rfl rfl (.one (.ag ⟨.same _ (by simp), .view rfl, trivial⟩) rfl) (of_decide_eq_true rfl) (.cons rfl rfl (.same (by simp)) (of_decide_eq_true rfl) (trivial))))) ⟨⟨_, rfl, .same _ (by simp)⟩, ⟨_, rfl, .same _ (by simp)⟩, ⟨_, rfl, .ref rfl⟩, ⟨_, rfl, .ref rfl⟩, ⟨_, rfl, .ref rfl⟩, ⟨_, rfl, .same _ (by simp)⟩, ⟨_, rfl, .same _ (by simp)⟩, trivial⟩) ?_)
      clear hK7 K7
      refine awp_cond rfl (fun hb385 => ?_) (fun hb385 => ?_)
      · replace h := Sh.if_t h hb385
        refine awp_skip ?_
        refine hK6 _ (AWP.weak (Weak.re (fr' := [(1, i64 a_1), (2, i64 b_2), (3, .ref 0 0 0), (6, .ref 1 0 0), (7, .ref 2 0 0), (8, i64 x384)]) (H' := ⟨4, [(0, (2, [G.inquestref12_G.av c_0])), (1, (2, [.agg [i64 0, nilS]])), (2, (2, [.agg [i64 r145.N, .view 3 0 (List.map u64 dRows383).length]])), (3, (1, List.map u64 dRows383))]⟩) [(0, 0), (1, 1), (2, 2), (3, 3)] [] rfl rfl rfl (.cons rfl rfl (.one (.same _ (by simp)) rfl) (of_decide_eq_true rfl) (.cons rfl rfl (.one (.same _ (by simp)) rfl) (of_decide_eq_true rfl) (.cons rfl rfl (.one (.ag ⟨.same _ (by simp), .view rfl, trivial⟩) rfl) (of_decide_eq_true rfl) (.cons rfl rfl (.same (by simp)) (of_decide_eq_true rfl) (trivial))))) ⟨⟨_, rfl, .same _ (by simp)⟩, ⟨_, rfl, .same _ (by simp)⟩, ⟨_, rfl, .ref rfl⟩, ⟨_, rfl, .ref rfl⟩, ⟨_, rfl, .ref rfl⟩, ⟨_, rfl, .same _ (by simp)⟩, trivial⟩) ?_)
        clear hK6 K6
        refine awp_seqJ (fun (p : (List (BitVec 64))) => (⟨[(1, i64 a_1), (2, i64 b_2), (3, .ref 0 0 0), (6, .ref 1 0 0), (7, .ref 2 0 0), (8, i64 x384)], ⟨4, [(0, (2, [G.inquestref12_G.av c_0])), (1, (2, [.agg [i64 0, nilS]])), (2, (2, [.agg [i64 r145.N, .view 3 0 (List.map u64 p).length]])), (3, (1, List.map u64 p))]⟩⟩ : St)) (fun (p : (List (BitVec 64))) => G.inquestref13_More_j2 x384 p = some o1) ?_ ?_
        · rintro v432 h
          replace h : G.inquestref13_More_j2 x384 v432 = some o1 := h
          unfold G.inquestref13_More_j2 at h
          show AWP _ _ _ _ ⟨[(1, i64 a_1), (2, i64 b_2), (3, .ref 0 0 0), (6, .ref 1 0 0), (7, .ref 2 0 0), (8, i64 x384)], ⟨4, [(0, (2, [G.inquestref12_G.av c_0])), (1, (2, [.agg [i64 0, nilS]])), (2, (2, [.agg [i64 r145.N, .view 3 0 (List.map u64 v432).length]])), (3, (1, List.map u64 v432))]⟩⟩ _
          refine awp_reg rfl ?_
          refine AR.op (r := i64 x384) rfl (aop_move (.inl rfl) rfl) ?_
          refine AR.op (r := i64 (w64 (x384 + 1))) rfl (aop_add rfl rfl rfl rfl) ?_
          refine AR.op (r := i64 (w64 (x384 + 1))) rfl (aop_move (.inr rfl) rfl) ?_
          refine AR.nil ?_
          replace h := Sh.next_eq h
          exact ⟨_, h, Weak.re (fr' := [(1, i64 a_1), (2, i64 b_2), (3, .ref 0 0 0), (6, .ref 1 0 0), (7, .ref 2 0 0), (8, i64 (w64 (x384 + 1)))]) (H' := ⟨4, [(0, (2, [G.inquestref12_G.av c_0])), (1, (2, [.agg [i64 0, nilS]])), (2, (2, [.agg [i64 r145.N, .view 3 0 (List.map u64 v432).length]])), (3, (1, List.map u64 v432))]⟩) [(0, 0), (1, 1), (2, 2), (3, 3)] [] rfl rfl rfl (.cons rfl rfl (.one (.same _ (by simp)) rfl) (of_decide_eq_true rfl) (.cons rfl rfl (.one (.same _ (by simp)) rfl) (of_decide_eq_true rfl) (.cons rfl rfl (.one (.ag ⟨.same _ (by simp), .view rfl, trivial⟩) rfl) (of_decide_eq_true rfl) (.cons rfl rfl (.same (by simp)) (of_decide_eq_true rfl) (trivial))))) ⟨⟨_, rfl, .same _ (by simp)⟩, ⟨_, rfl, .same _ (by simp)⟩, ⟨_, rfl, .ref rfl⟩, ⟨_, rfl, .ref rfl⟩, ⟨_, rfl, .ref rfl⟩, ⟨_, rfl, .same _ (by simp)⟩, trivial⟩⟩
        · intro K8 hK8
          refine awp_block ?_
          refine awp_seqK fun K9 hK9 => ?_
          refine awp_reg rfl ?_
          refine AR.op (r := i64 0) rfl (aop_move (.inr rfl) rfl) ?_
          refine AR.nil ?_
          refine hK9 _ ?_
          clear hK9 K9
          refine awp_block ?_
          refine awp_iter (fun (p : (List (BitVec 64)) × Int) => G.inquestref13_More_b2 c_0 a_1 b_2 x384 p.1 p.2) (fun (p : (List (BitVec 64)) × Int) => (⟨[(1, i64 a_1), (2, i64 b_2), (3, .ref 0 0 0), (6, .ref 1 0 0), (7, .ref 2 0 0), (8, i64 x384), (9, i64 p.2)], ⟨4, [(0, (2, [G.inquestref12_G.av c_0])), (1, (2, [.agg [i64 0, nilS]])), (2, (2, [.agg [i64 r145.N, .view 3 0 (List.map u64 p.1).length]])), (3, (1, List.map u64 p.1))]⟩⟩ : St)) h (Weak.re (fr' := [(1, i64 a_1), (2, i64 b_2), (3, .ref 0 0 0), (6, .ref 1 0 0), (7, .ref 2 0 0), (8, i64 x384), (9, i64 0)]) (H' := ⟨4, [(0, (2, [G.inquestref12_G.av c_0])), (1, (2, [.agg [i64 0, nilS]])), (2, (2, [.agg [i64 r145.N, .view 3 0 (List.map u64 dRows383).length]])), (3, (1, List.map u64 dRows383))]⟩) [(0, 0), (1, 1), (2, 2), (3, 3)] [] rfl rfl rfl (.cons rfl rfl (.one (.same _ (by simp)) rfl) (of_decide_eq_true rfl) (.cons rfl rfl (.one (.same _ (by simp)) rfl) (of_decide_eq_true rfl) (.cons rfl rfl (.one (.ag ⟨.same _ (by simp), .view rfl, trivial⟩) rfl) (of_decide_eq_true rfl) (.cons rfl rfl (.same (by simp)) (of_decide_eq_true rfl) (trivial))))) ⟨⟨_, rfl, .same _ (by simp)⟩, ⟨_, rfl, .same _ (by simp)⟩, ⟨_, rfl, .ref rfl⟩, ⟨_, rfl, .ref rfl⟩, ⟨_, rfl, .ref rfl⟩, ⟨_, rfl, .same _ (by simp)⟩, ⟨_, rfl, .same _ (by simp)⟩, trivial⟩) ?_
          · skip
            rintro ⟨dRows463, y464⟩ o2 h hx2
            replace h : G.inquestref13_More_b2 c_0 a_1 b_2 x384 dRows463 y464 = some o2 := h
            unfold G.inquestref13_More_b2 at h
            show AWP _ _ _ _ ⟨[(1, i64 a_1), (2, i64 b_2), (3, .ref 0 0 0), (6, .ref 1 0 0), (7, .ref 2 0 0), (8, i64 x384), (9, i64 y464)], ⟨4, [(0, (2, [G.inquestref12_G.av c_0])), (1, (2, [.agg [i64 0, nilS]])), (2, (2, [.agg [i64 r145.N, .view 3 0 (List.map u64 dRows463).length]])), (3, (1, List.map u64 dRows463))]⟩⟩ _
            refine awp_seqK fun K10 hK10 => ?_
            refine awp_seqK fun K11 hK11 => ?_
            refine awp_reg rfl ?_
            refine AR.op (r := i64 y464) rfl (aop_move (.inl rfl) rfl) ?_
            refine AR.op rfl (aop_field_ref rfl rfl rfl fd26_0 (by decide)) ?_
            refine AR.op (r := i64 c_0.N) rfl (aop_load_ref rfl rfl rfl rfl sz3 rfl) ?_
            refine AR.drop (frx := [(1, _), (2, _), (3, _), (6, _), (7, _), (8, _), (9, _), (22, _), (24, _)]) ⟨rfl, rfl, rfl, rfl, rfl, rfl, rfl, rfl, rfl, trivial⟩ ?_
            refine AR.op (r := bl (decide (y464 < c_0.N))) rfl (aop_lss rfl rfl rfl) ?_
            refine AR.nil ?_
            refine hK11 _ (AWP.weak (Weak.re (fr' := [(1, i64 a_1), (2, i64 b_2), (3, .ref 0 0 0), (6, .ref 1 0 0), (7, .ref 2 0 0), (8, i64 x384), (9, i64 y464), (25, bl (decide (y464 < c_0.N)))]) (H' := ⟨4, [(0, (2, [G.inquestref12_G.av c_0])), (1, (2, [.agg [i64 0, nilS]])), (2, (2, [.agg [i64 r145.N, .view 3 0 (List.map u64 dRows463).length]])), (3, (1, List.map u64 dRows463))]⟩) [(0, 0), (1, 1), (2, 2), (3, 3)] [] rfl rfl rfl (.cons rfl rfl (.one (.same _ (by simp)) rfl) (of_decide_eq_true rfl) (.cons rfl rfl (.one (.same _ (by simp)) rfl) (of_decide_eq_true rfl) (.cons rfl rfl (.one (.ag ⟨.same _ (by simp), .view rfl, trivial⟩) rfl) (of_decide_eq_true rfl) (.cons rfl rfl (.same (by simp)) (of_decide_eq_true rfl) (trivial))))) ⟨⟨_, rfl, .same _ (by simp)⟩, ⟨_, rfl, .same _ (by simp)⟩, ⟨_, rfl, .ref rfl⟩, ⟨_, rfl, .ref rfl⟩, ⟨_, rfl, .ref rfl⟩, ⟨_, rfl, .same _ (by simp)⟩, ⟨_, rfl, .same _ (by simp)⟩, ⟨_, rfl, .same _ (by simp)⟩, trivial⟩) ?_)
            clear hK11 K11
            refine awp_cond rfl (fun hb465 => ?_) (fun hb465 => ?_)
            · replace h := Sh.if_t h hb465
              refine awp_skip ?_
              refine hK10 _ (AWP.weak (Weak.re (fr' := [(1, i64 a_1), (2, i64 b_2), (3, .ref 0 0 0), (6, .ref 1 0 0), (7, .ref 2 0 0), (8, i64 x384), (9, i64 y464)]) (H' := ⟨4, [(0, (2, [G.inquestref12_G.av c_0])), (1, (2, [.agg [i64 0, nilS]])), (2, (2, [.agg [i64 r145.N, .view 3 0 (List.map u64 dRows463).length]])), (3, (1, List.map u64 dRows463))]⟩) [(0, 0), (1, 1), (2, 2), (3, 3)] [] rfl rfl rfl (.cons rfl rfl (.one (.same _ (by simp)) rfl) (of_decide_eq_true rfl) (.cons rfl rfl (.one (.same _ (by simp)) rfl) (of_decide_eq_true rfl) (.cons rfl rfl (.one (.ag ⟨.same _ (by simp), .view rfl, trivial⟩) rfl) (of_decide_eq_true rfl) (.cons rfl rfl (.same (by simp)) (of_decide_eq_true rfl) (trivial))))) ⟨⟨_, rfl, .same _ (by simp)⟩, ⟨_, rfl, .same _ (by simp)⟩, ⟨_, rfl, .ref rfl⟩, ⟨_, rfl, .ref rfl⟩, ⟨_, rfl, .ref rfl⟩, ⟨_, rfl, .same _ (by simp)⟩, ⟨_, rfl, .same _ (by simp)⟩, trivial⟩) ?_)
              clear hK10 K10
              refine awp_seqJ (fun (p : (List (BitVec 64))) => (⟨[(1, i64 a_1), (2, i64 b_2), (3, .ref 0 0 0), (6, .ref 1 0 0), (7, .ref 2 0 0), (8, i64 x384), (9, i64 y464), (52, .any), (53, .any), (54, .any), (55, .any)], ⟨4, [(0, (2, [G.inquestref12_G.av c_0])), (1, (2, [.agg [i64 0, nilS]])), (2, (2, [.agg [i64 r145.N, .view 3 0 (List.map u64 p).length]])), (3, (1, List.map u64 p))]⟩⟩ : St)) (fun (p : (List (BitVec 64))) => G.inquestref13_More_j3 y464 p = some o2) ?_ ?_
              · rintro dRows479 h
                replace h : G.inquestref13_More_j3 y464 dRows479 = some o2 := h
                unfold G.inquestref13_More_j3 at h
                show AWP _ _ _ _ ⟨[(1, i64 a_1), (2, i64 b_2), (3, .ref 0 0 0), (6, .ref 1 0 0), (7, .ref 2 0 0), (8, i64 x384), (9, i64 y464), (52, .any), (53, .any), (54, .any), (55, .any)], ⟨4, [(0, (2, [G.inquestref12_G.av c_0])), (1, (2, [.agg [i64 0, nilS]])), (2, (2, [.agg [i64 r145.N, .view 3 0 (List.map u64 dRows479).length]])), (3, (1, List.map u64 dRows479))]⟩⟩ _
                refine awp_reg rfl ?_
                refine AR.op (r := i64 y464) rfl (aop_move (.inl rfl) rfl) ?_
                refine AR.op (r := i64 (w64 (y464 + 1))) rfl (aop_add rfl rfl rfl rfl) ?_
                refine AR.op (r := i64 (w64 (y464 + 1))) rfl (aop_move (.inr rfl) rfl) ?_
                refine AR.nil ?_
                replace h := Sh.next_eq h
                exact ⟨_, h, Weak.re (fr' := [(1, i64 a_1), (2, i64 b_2), (3, .ref 0 0 0), (6, .ref 1 0 0), (7, .ref 2 0 0), (8, i64 x384), (9, i64 (w64 (y464 + 1)))]) (H' := ⟨4, [(0, (2, [G.inquestref12_G.av c_0])), (1, (2, [.agg [i64 0, nilS]])), (2, (2, [.agg [i64 r145.N, .view 3 0 (List.map u64 dRows479).length]])), (3, (1, List.map u64 dRows479))]⟩) [(0, 0), (1, 1), (2, 2), (3, 3)] [] rfl rfl rfl (.cons rfl rfl (.one (.same _ (by simp)) rfl) (of_decide_eq_true rfl) (.cons rfl rfl (.one (.same _ (by simp)) rfl) (of_decide_eq_true rfl) (.cons rfl rfl (.one (.ag ⟨.same _ (by simp), .view rfl, trivial⟩) rfl) (of_decide_eq_true rfl) (.cons rfl rfl (.same (by simp)) (of_decide_eq_true rfl) (trivial))))) ⟨⟨_, rfl, .same _ (by simp)⟩, ⟨_, rfl, .same _ (by simp)⟩, ⟨_, rfl, .ref rfl⟩, ⟨_, rfl, .ref rfl⟩, ⟨_, rfl, .ref rfl⟩, ⟨_, rfl, .same _ (by simp)⟩, ⟨_, rfl, .same _ (by simp)⟩, trivial⟩⟩
              · intro K12 hK12
                refine awp_block ?_
                refine awp_seqK fun K13 hK13 => ?_
                refine awp_reg rfl ?_
                refine AR.op (r := G.inquestref12_G.av c_0) rfl (aop_load_ref rfl rfl rfl rfl sz26 rfl) ?_
                refine AR.op (r := i64 x384) rfl (aop_move (.inl rfl) rfl) ?_
                refine AR.op (r := i64 y464) rfl (aop_move (.inl rfl) rfl) ?_
                refine AR.drop (frx := [(1, _), (2, _), (3, _), (6, _), (7, _), (8, _), (9, _), (28, _), (29, _), (30, _)]) ⟨rfl, rfl, rfl, rfl, rfl, rfl, rfl, rfl, rfl, rfl, trivial⟩ ?_
                obtain ⟨r481, hr481, h⟩ := Sh.bind_some' h
                refine AR.op (r := bl r481) rfl (aop_call1 rfl rfl (by simp) (inquestref12_Has_ok hT hr481)) ?_
                refine AR.op (r := bl r481) rfl (aop_move (.inr rfl) rfl) ?_
                refine AR.nil ?_
                refine hK13 _ (AWP.weak (Weak.re (fr' := [(1, i64 a_1), (2, i64 b_2), (3, .ref 0 0 0), (6, .ref 1 0 0), (7, .ref 2 0 0), (8, i64 x384), (9, i64 y464), (10, bl r481)]) (H' := ⟨4, [(0, (2, [G.inquestref12_G.av c_0])), (1, (2, [.agg [i64 0, nilS]])), (2, (2, [.agg [i64 r145.N, .view 3 0 (List.map u64 dRows463).length]])), (3, (1, List.map u64 dRows463))]⟩) [(0, 0), (1, 1), (2, 2), (3, 3)] [] rfl rfl rfl (.cons rfl rfl (.one (.same _ (by simp)) rfl) (of_decide_eq_true rfl) (.cons rfl rfl (.one (.same _ (by simp)) rfl) (of_decide_eq_true rfl) (.cons rfl rfl (.one (.ag ⟨.same _ (by simp), .view rfl, trivial⟩) rfl) (of_decide_eq_true rfl) (.cons rfl rfl (.same (by simp)) (of_decide_eq_true rfl) (trivial))))) ⟨⟨_, rfl, .same _ (by simp)⟩, ⟨_, rfl, .same _ (by simp)⟩, ⟨_, rfl, .ref rfl⟩, ⟨_, rfl, .ref rfl⟩, ⟨_, rfl, .ref rfl⟩, ⟨_, rfl, .same _ (by simp)⟩, ⟨_, rfl, .same _ (by simp)⟩, ⟨_, rfl, .same _ (by simp)⟩, trivial⟩) ?_)
                clear hK13 K13
                refine awp_seqK fun K14 hK14 => ?_
                refine awp_reg rfl ?_
                refine AR.op (r := i64 x384) rfl (aop_move (.inl rfl) rfl) ?_
                refine AR.op (r := i64 a_1) rfl (aop_move (.inl rfl) rfl) ?_
                refine AR.op (r := bl (decide (x384 = a_1))) rfl (aop_eql rfl rfl rfl) ?_
                refine AR.drop (frx := [(1, _), (2, _), (3, _), (6, _), (7, _), (8, _), (9, _), (10, _), (34, _)]) ⟨rfl, rfl, rfl, rfl, rfl, rfl, rfl, rfl, rfl, trivial⟩ ?_
                refine AR.op (r := bl (decide (x384 = a_1))) rfl (aop_move (.inr rfl) rfl) ?_
                refine AR.nil ?_
                refine hK14 _ (AWP.weak (Weak.re (fr' := [(1, i64 a_1), (2, i64 b_2), (3, .ref 0 0 0), (6, .ref 1 0 0), (7, .ref 2 0 0), (8, i64 x384), (9, i64 y464), (10, bl r481), (11, bl (decide (x384 = a_1)))]) (H' := ⟨4, [(0, (2, [G.inquestref12_G.av c_0])), (1, (2, [.agg [i64 0, nilS]])), (2, (2, [.agg [i64 r145.N, .view 3 0 (List.map u64 dRows463).length]])), (3, (1, List.map u64 dRows463))]⟩) [(0, 0), (1, 1), (2, 2), (3, 3)] [] rfl rfl rfl (.cons rfl rfl (.one (.same _ (by simp)) rfl) (of_decide_eq_true rfl) (.cons rfl rfl (.one (.same _ (by simp)) rfl) (of_decide_eq_true rfl) (.cons rfl rfl (.one (.ag ⟨.same _ (by simp), .view rfl, trivial⟩) rfl) (of_decide_eq_true rfl) (.cons rfl rfl (.same (by simp)) (of_decide_eq_true rfl) (trivial))))) ⟨⟨_, rfl, .same _ (by simp)⟩, ⟨_, rfl, .same _ (by simp)⟩, ⟨_, rfl, .ref rfl⟩, ⟨_, rfl, .ref rfl⟩, ⟨_, rfl, .ref rfl⟩, ⟨_, rfl, .same _ (by simp)⟩, ⟨_, rfl, .same _ (by simp)⟩, ⟨_, rfl, .same _ (by simp)⟩, ⟨_, rfl, .same _ (by simp)⟩, trivial⟩) ?_)
                clear hK14 K14
                refine awp_seqJ (fun (p : Bool) => (⟨[(1, i64 a_1), (2, i64 b_2), (3, .ref 0 0 0), (6, .ref 1 0 0), (7, .ref 2 0 0), (8, i64 x384), (9, i64 y464), (10, bl r481), (11, bl p)], ⟨4, [(0, (2, [G.inquestref12_G.av c_0])), (1, (2, [.agg [i64 0, nilS]])), (2, (2, [.agg [i64 r145.N, .view 3 0 (List.map u64 dRows463).length]])), (3, (1, List.map u64 dRows463))]⟩⟩ : St)) (fun (p : Bool) => G.inquestref13_More_j4 c_0 b_2 x384 dRows463 y464 r481 p = some o2) ?_ ?_
                · rintro in483 h
                  replace h : G.inquestref13_More_j4 c_0 b_2 x384 dRows463 y464 r481 in483 = some o2 := h
                  unfold G.inquestref13_More_j4 at h
                  show AWP _ _ _ _ ⟨[(1, i64 a_1), (2, i64 b_2), (3, .ref 0 0 0), (6, .ref 1 0 0), (7, .ref 2 0 0), (8, i64 x384), (9, i64 y464), (10, bl r481), (11, bl in483)], ⟨4, [(0, (2, [G.inquestref12_G.av c_0])), (1, (2, [.agg [i64 0, nilS]])), (2, (2, [.agg [i64 r145.N, .view 3 0 (List.map u64 dRows463).length]])), (3, (1, List.map u64 dRows463))]⟩⟩ _
                  refine awp_seqK fun K15 hK15 => ?_
                  refine awp_reg rfl ?_
                  refine AR.op (r := i64 y464) rfl (aop_move (.inl rfl) rfl) ?_
                  refine AR.op (r := i64 b_2) rfl (aop_move (.inl rfl) rfl) ?_
                  refine AR.op (r := bl (decide (y464 = b_2))) rfl (aop_eql rfl rfl rfl) ?_
                  refine AR.drop (frx := [(1, _), (2, _), (3, _), (6, _), (7, _), (8, _), (9, _), (10, _), (11, _), (43, _)]) ⟨rfl, rfl, rfl, rfl, rfl, rfl, rfl, rfl, rfl, rfl, trivial⟩ ?_
                  refine AR.op (r := bl (decide (y464 = b_2))) rfl (aop_move (.inr rfl) rfl) ?_
                  refine AR.nil ?_
                  refine hK15 _ (AWP.weak (Weak.re (fr' := [(1, i64 a_1), (2, i64 b_2), (3, .ref 0 0 0), (6, .ref 1 0 0), (7, .ref 2 0 0), (8, i64 x384), (9, i64 y464), (10, bl r481), (11, bl in483), (12, bl (decide (y464 = b_2)))]) (H' := ⟨4, [(0, (2, [G.inquestref12_G.av c_0])), (1, (2, [.agg [i64 0, nilS]])), (2, (2, [.agg [i64 r145.N, .view 3 0 (List.map u64 dRows463).length]])), (3, (1, List.map u64 dRows463))]⟩) [(0, 0), (1, 1), (2, 2), (3, 3)] [] rfl rfl rfl (.cons rfl rfl (.one (.same _ (by simp)) rfl) (of_decide_eq_true rfl) (.cons rfl rfl (.one (.same _ (by simp)) rfl) (of_decide_eq_true rfl) (.cons rfl rfl (.one (.ag ⟨.same _ (by simp), .view rfl, trivial⟩) rfl) (of_decide_eq_true rfl) (.cons rfl rfl (.same (by simp)) (of_decide_eq_true rfl) (trivial))))) ⟨⟨_, rfl, .same _ (by simp)⟩, ⟨_, rfl, .same _ (by simp)⟩, ⟨_, rfl, .ref rfl⟩, ⟨_, rfl, .ref rfl⟩, ⟨_, rfl, .ref rfl⟩, ⟨_, rfl, .same _ (by simp)⟩, ⟨_, rfl, .same _ (by simp)⟩, ⟨_, rfl, .same _ (by simp)⟩, ⟨_, rfl, .same _ (by simp)⟩, ⟨_, rfl, .same _ (by simp)⟩, trivial⟩) ?_)
                  clear hK15 K15
                  refine awp_seqJ (fun (p : Bool) => (⟨[(1, i64 a_1), (2, i64 b_2), (3, .ref 0 0 0), (6, .ref 1 0 0), (7, .ref 2 0 0), (8, i64 x384), (9, i64 y464), (10, bl r481), (11, bl in483), (12, bl p)], ⟨4, [(0, (2, [G.inquestref12_G.av c_0])), (1, (2, [.agg [i64 0, nilS]])), (2, (2, [.agg [i64 r145.N, .view 3 0 (List.map u64 dRows463).length]])), (3, (1, List.map u64 dRows463))]⟩⟩ : St)) (fun (p : Bool) => G.inquestref13_More_j5 x384 dRows463 y464 r481 in483 p = some o2) ?_ ?_
                  · rintro out485 h
                    replace h : G.inquestref13_More_j5 x384 dRows463 y464 r481 in483 out485 = some o2 := h
                    unfold G.inquestref13_More_j5 at h
                    show AWP _ _ _ _ ⟨[(1, i64 a_1), (2, i64 b_2), (3, .ref 0 0 0), (6, .ref 1 0 0), (7, .ref 2 0 0), (8, i64 x384), (9, i64 y464), (10, bl r481), (11, bl in483), (12, bl out485)], ⟨4, [(0, (2, [G.inquestref12_G.av c_0])), (1, (2, [.agg [i64 0, nilS]])), (2, (2, [.agg [i64 r145.N, .view 3 0 (List.map u64 dRows463).length]])), (3, (1, List.map u64 dRows463))]⟩⟩ _
                    refine awp_seqJ (fun (p : Bool) => (⟨[(1, i64 a_1), (2, i64 b_2), (3, .ref 0 0 0), (6, .ref 1 0 0), (7, .ref 2 0 0), (8, i64 x384), (9, i64 y464), (52, .any), (53, .any), (54, .any), (55, .any), (56, bl p)], ⟨4, [(0, (2, [G.inquestref12_G.av c_0])), (1, (2, [.agg [i64 0, nilS]])), (2, (2, [.agg [i64 r145.N, .view 3 0 (List.map u64 dRows463).length]])), (3, (1, List.map u64 dRows463))]⟩⟩ : St)) (fun (p : Bool) => G.inquestref13_More_j6 x384 dRows463 y464 p = some o2) ?_ ?_
                    · rintro v488 h
                      replace h : G.inquestref13_More_j6 x384 dRows463 y464 v488 = some o2 := h
                      unfold G.inquestref13_More_j6 at h
                      show AWP _ _ _ _ ⟨[(1, i64 a_1), (2, i64 b_2), (3, .ref 0 0 0), (6, .ref 1 0 0), (7, .ref 2 0 0), (8, i64 x384), (9, i64 y464), (52, .any), (53, .any), (54, .any), (55, .any), (56, bl v488)], ⟨4, [(0, (2, [G.inquestref12_G.av c_0])), (1, (2, [.agg [i64 0, nilS]])), (2, (2, [.agg [i64 r145.N, .view 3 0 (List.map u64 dRows463).length]])), (3, (1, List.map u64 dRows463))]⟩⟩ _
                      refine awp_cond rfl (fun hb489 => ?_) (fun hb489 => ?_)
                      · replace h := Sh.if_t h hb489
                        refine awp_any (by kernel_rfl) (by kernel_rfl) rfl ?_
                        refine ARH.op rfl rfl (aop_field_ref rfl rfl rfl fd26_1 (by decide)) ?_
                        refine ARH.op (r := .view 3 0 (List.map u64 dRows463).length) rfl rfl (aop_load_ref rfl rfl rfl rfl sz22 rfl) ?_
                        refine ARH.dry (r := i64 x384) rfl (fun _ => aop_move (.inl rfl) rfl) ?_
                        refine ARH.drop (frx := [(1, _), (2, _), (3, _), (6, _), (7, _), (8, _), (9, _), (52, _), (53, _), (54, _), (55, _), (58, _), (59, _)]) ⟨rfl, rfl, rfl, rfl, rfl, rfl, rfl, rfl, rfl, rfl, rfl, rfl, rfl, trivial⟩ ?_
                        refine ARH.op rfl rfl (aop_field_ref rfl rfl rfl fd26_1 (by decide)) ?_
                        refine ARH.op (r := .view 3 0 (List.map u64 dRows463).length) rfl rfl (aop_load_ref rfl rfl rfl rfl sz22 rfl) ?_
                        refine ARH.dry (r := i64 x384) rfl (fun _ => aop_move (.inl rfl) rfl) ?_
                        refine ARH.drop (frx := [(1, _), (2, _), (3, _), (6, _), (7, _), (8, _), (9, _), (52, _), (53, _), (54, _), (55, _), (58, _), (59, _), (61, _), (62, _)]) ⟨rfl, rfl, rfl, rfl, rfl, rfl, rfl, rfl, rfl, rfl, rfl, rfl, rfl, rfl, rfl, trivial⟩ ?_
                        obtain ⟨x490, hx490, h⟩ := Sh.bind_some' h
                        obtain ⟨k491, hi491, hl491⟩ := Sh.idx_some hx490
                        refine ARH.op (r := .ref 3 k491 0) rfl rfl (t_index_view u64 dRows463 hi491 hl491 rfl rfl rfl rfl rfl el22 rfl) ?_
                        refine ARH.op (r := u64 x490) rfl rfl (t_load_el u64 dRows463 hl491 rfl rfl rfl sz45 rfl) ?_
                        refine ARH.dry (r := i64 y464) rfl (fun _ => aop_move (.inl rfl) rfl) ?_
                        refine ARH.drop (frx := [(1, _), (2, _), (3, _), (6, _), (7, _), (8, _), (9, _), (52, _), (53, _), (54, _), (55, _), (58, _), (59, _), (64, _), (65, _)]) ⟨rfl, rfl, rfl, rfl, rfl, rfl, rfl, rfl, rfl, rfl, rfl, rfl, rfl, rfl, rfl, trivial⟩ ?_
                        obtain ⟨r492, hr492, h⟩ := Sh.bind_some' h
                        refine ARH.op (r := u64 r492) rfl rfl (aop_call1 rfl rfl (by simp) (inquestref10_With_ok hT hr492)) ?_
                        obtain ⟨x493, hx493, h⟩ := Sh.bind_some' h
                        obtain ⟨k494, hi494, hl494⟩ := Sh.idx_some hx493
                        refine ARH.op (r := .ref 3 k494 0) rfl rfl (t_index_view u64 dRows463 hi494 hl494 rfl rfl rfl rfl rfl el22 rfl) ?_
                        refine ARH.loud rfl rfl rfl (t_store_el u64 dRows463 r492 hi494 hl494 rfl rfl rfl rfl rfl sz45 rfl (of_decide_eq_true rfl) rfl) ?_
                        refine ARH.nil ?_
                        exact hK12 (Sh.set dRows463 x384 r492) _ h (Weak.re (fr' := [(1, i64 a_1), (2, i64 b_2), (3, .ref 0 0 0), (6, .ref 1 0 0), (7, .ref 2 0 0), (8, i64 x384), (9, i64 y464), (52, .any), (53, .any), (54, .any), (55, .any)]) (H' := ⟨4, [(0, (2, [G.inquestref12_G.av c_0])), (1, (2, [.agg [i64 0, nilS]])), (2, (2, [.agg [i64 r145.N, .view 3 0 (List.map u64 (Sh.set dRows463 x384 r492)).length]])), (3, (1, List.map u64 (Sh.set dRows463 x384 r492)))]⟩) [(0, 0), (1, 1), (2, 2), (3, 3)] [] rfl rfl rfl (.cons rfl rfl (.one (.same _ (by simp)) rfl) (of_decide_eq_true rfl) (.cons rfl rfl (.one (.same _ (by simp)) rfl) (of_decide_eq_true rfl) (.cons rfl rfl (.one (.ag ⟨.same _ (by simp), .viewL rfl (by simp []), trivial⟩) rfl) (of_decide_eq_true rfl) (.cons rfl rfl (.same (by simp)) (of_decide_eq_true rfl) (trivial))))) ⟨⟨_, rfl, .same _ (by simp)⟩, ⟨_, rfl, .same _ (by simp)⟩, ⟨_, rfl, .ref rfl⟩, ⟨_, rfl, .ref rfl⟩, ⟨_, rfl, .ref rfl⟩, ⟨_, rfl, .same _ (by simp)⟩, ⟨_, rfl, .same _ (by simp)⟩, ⟨_, rfl, .any _⟩, ⟨_, rfl, .any _⟩, ⟨_, rfl, .any _⟩, ⟨_, rfl, .any _⟩, trivial⟩)
                      · replace h := Sh.if_f h hb489
                        refine awp_skip ?_
                        exact hK12 dRows463 _ h (Weak.re (fr' := [(1, i64 a_1), (2, i64 b_2), (3, .ref 0 0 0), (6, .ref 1 0 0), (7, .ref 2 0 0), (8, i64 x384), (9, i64 y464), (52, .any), (53, .any), (54, .any), (55, .any)]) (H' := ⟨4, [(0, (2, [G.inquestref12_G.av c_0])), (1, (2, [.agg [i64 0, nilS]])), (2, (2, [.agg [i64 r145.N, .view 3 0 (List.map u64 dRows463).length]])), (3, (1, List.map u64 dRows463))]⟩) [(0, 0), (1, 1), (2, 2), (3, 3)] [] rfl rfl rfl (.cons rfl rfl (.one (.same _ (by simp)) rfl) (of_decide_eq_true rfl) (.cons rfl rfl (.one (.same _ (by simp)) rfl) (of_decide_eq_true rfl) (.cons rfl rfl (.one (.ag ⟨.same _ (by simp), .view rfl, trivial⟩) rfl) (of_decide_eq_true rfl) (.cons rfl rfl (.same (by simp)) (of_decide_eq_true rfl) (trivial))))) ⟨⟨_, rfl, .same _ (by simp)⟩, ⟨_, rfl, .same _ (by simp)⟩, ⟨_, rfl, .ref rfl⟩, ⟨_, rfl, .ref rfl⟩, ⟨_, rfl, .ref rfl⟩, ⟨_, rfl, .same _ (by simp)⟩, ⟨_, rfl, .same _ (by simp)⟩, ⟨_, rfl, .any _⟩, ⟨_, rfl, .any _⟩, ⟨_, rfl, .any _⟩, ⟨_, rfl, .any _⟩, trivial⟩)
                    · intro K16 hK16
                      refine awp_reg rfl ?_
                      refine AR.op (r := bl r481) rfl (aop_move (.inl rfl) rfl) ?_
                      refine AR.op (r := bl r481) rfl (aop_move (.inl rfl) rfl) ?_
                      rcases Bool.eq_false_or_eq_true (r481) with hb495 | hb495
                      · rw [hb495]
                        replace h := Sh.if_t h hb495
                        refine AR.skip rfl ?_
                        refine AR.drop (frx := [(1, _), (2, _), (3, _), (6, _), (7, _), (8, _), (9, _), (12, _), (51, _), (52, _)]) ⟨rfl, rfl, rfl, rfl, rfl, rfl, rfl, rfl, rfl, rfl, trivial⟩ ?_
                        refine AR.skip rfl ?_
                        refine AR.skip rfl ?_
                        refine AR.skip rfl ?_
                        refine AR.drop (frx := [(1, _), (2, _), (3, _), (6, _), (7, _), (8, _), (9, _), (51, _), (52, _), (53, _), (54, _), (55, _)]) ⟨rfl, rfl, rfl, rfl, rfl, rfl, rfl, rfl, rfl, rfl, rfl, rfl, trivial⟩ ?_
                        refine AR.op (r := bl true) rfl (aop_pick rfl rfl rfl) ?_
                        refine AR.nil ?_
                        exact hK16 true _ h (Weak.re (fr' := [(1, i64 a_1), (2, i64 b_2), (3, .ref 0 0 0), (6, .ref 1 0 0), (7, .ref 2 0 0), (8, i64 x384), (9, i64 y464), (52, .any), (53, .any), (54, .any), (55, .any), (56, bl true)]) (H' := ⟨4, [(0, (2, [G.inquestref12_G.av c_0])), (1, (2, [.agg [i64 0, nilS]])), (2, (2, [.agg [i64 r145.N, .view 3 0 (List.map u64 dRows463).length]])), (3, (1, List.map u64 dRows463))]⟩) [(0, 0), (1, 1), (2, 2), (3, 3)] [] rfl rfl rfl (.cons rfl rfl (.one (.same _ (by simp)) rfl) (of_decide_eq_true rfl) (.cons rfl rfl (.one (.same _ (by simp)) rfl) (of_decide_eq_true rfl) (.cons rfl rfl (.one (.ag ⟨.same _ (by simp), .view rfl, trivial⟩) rfl) (of_decide_eq_true rfl) (.cons rfl rfl (.same (by simp)) (of_decide_eq_true rfl) (trivial))))) ⟨⟨_, rfl, .same _ (by simp)⟩, ⟨_, rfl, .same _ (by simp)⟩, ⟨_, rfl, .ref rfl⟩, ⟨_, rfl, .ref rfl⟩, ⟨_, rfl, .ref rfl⟩, ⟨_, rfl, .same _ (by simp)⟩, ⟨_, rfl, .same _ (by simp)⟩, ⟨_, rfl, .any _⟩, ⟨_, rfl, .any _⟩, ⟨_, rfl, .any _⟩, ⟨_, rfl, .any _⟩, ⟨_, rfl, .same _ (by simp)⟩, trivial⟩)
                      · rw [hb495]
                        replace h := Sh.if_f h hb495
                        refine AR.op (r := bl in483) rfl (aop_move (.inl rfl) rfl) ?_
                        refine AR.drop (frx := [(1, _), (2, _), (3, _), (6, _), (7, _), (8, _), (9, _), (12, _), (51, _), (52, _)]) ⟨rfl, rfl, rfl, rfl, rfl, rfl, rfl, rfl, rfl, rfl, trivial⟩ ?_
                        refine AR.op (r := bl in483) rfl (aop_move (.inl rfl) rfl) ?_
                        rcases Bool.eq_false_or_eq_true (in483) with hb496 | hb496
                        · rw [hb496]
                          replace h := Sh.if_t h hb496
                          refine AR.op (r := bl out485) rfl (aop_move (.inl rfl) rfl) ?_
                          refine AR.op (r := bl out485) rfl (aop_pick rfl rfl rfl) ?_
                          refine AR.drop (frx := [(1, _), (2, _), (3, _), (6, _), (7, _), (8, _), (9, _), (51, _), (52, _), (53, _), (54, _), (55, _)]) ⟨rfl, rfl, rfl, rfl, rfl, rfl, rfl, rfl, rfl, rfl, rfl, rfl, trivial⟩ ?_
                          refine AR.op (r := bl out485) rfl (aop_pick rfl rfl rfl) ?_
                          refine AR.nil ?_
                          exact hK16 out485 _ h (Weak.re (fr' := [(1, i64 a_1), (2, i64 b_2), (3, .ref 0 0 0), (6, .ref 1 0 0), (7, .ref 2 0 0), (8, i64 x384), (9, i64 y464), (52, .any), (53, .any), (54, .any), (55, .any), (56, bl out485)]) (H' := ⟨4, [(0, (2, [G.inquestref12_G.av c_0])), (1, (2, [.agg [i64 0, nilS]])), (2, (2, [.agg [i64 r145.N, .view 3 0 (List.map u64 dRows463).length]])), (3, (1, List.map u64 dRows463))]⟩) [(0, 0), (1, 1), (2, 2), (3, 3)] [] rfl rfl rfl (.cons rfl rfl (.one (.same _ (by simp)) rfl) (of_decide_eq_true rfl) (.cons rfl rfl (.one (.same _ (by simp)) rfl) (of_decide_eq_true rfl) (.cons rfl rfl (.one (.ag ⟨.same _ (by simp), .view rfl, trivial⟩) rfl) (of_decide_eq_true rfl) (.cons rfl rfl (.same (by simp)) (of_decide_eq_true rfl) (trivial))))) ⟨⟨_, rfl, .same _ (by simp)⟩, ⟨_, rfl, .same _ (by simp)⟩, ⟨_, rfl, .ref rfl⟩, ⟨_, rfl, .ref rfl⟩, ⟨_, rfl, .ref rfl⟩, ⟨_, rfl, .same _ (by simp)⟩, ⟨_, rfl, .same _ (by simp)⟩, ⟨_, rfl, .any _⟩, ⟨_, rfl, .any _⟩, ⟨_, rfl, .any _⟩, ⟨_, rfl, .any _⟩, ⟨_, rfl, .same _ (by simp)⟩, trivial⟩)
                        · rw [hb496]
                          replace h := Sh.if_f h hb496
                          refine AR.skip rfl ?_
                          refine AR.op (r := bl false) rfl (aop_pick rfl rfl rfl) ?_
                          refine AR.drop (frx := [(1, _), (2, _), (3, _), (6, _), (7, _), (8, _), (9, _), (51, _), (52, _), (53, _), (54, _), (55, _)]) ⟨rfl, rfl, rfl, rfl, rfl, rfl, rfl, rfl, rfl, rfl, rfl, rfl, trivial⟩ ?_
                          refine AR.op (r := bl false) rfl (aop_pick rfl rfl rfl) ?_
                          refine AR.nil ?_
                          exact hK16 false _ h (Weak.re (fr' := [(1, i64 a_1), (2, i64 b_2), (3, .ref 0 0 0), (6, .ref 1 0 0), (7, .ref 2 0 0), (8, i64 x384), (9, i64 y464), (52, .any), (53, .any), (54, .any), (55, .any), (56, bl false)]) (H' := ⟨4, [(0, (2, [G.inquestref12_G.av c_0])), (1, (2, [.agg [i64 0, nilS]])), (2, (2, [.agg [i64 r145.N, .view 3 0 (List.map u64 dRows463).length]])), (3, (1, List.map u64 dRows463))]⟩) [(0, 0), (1, 1), (2, 2), (3, 3)] [] rfl rfl rfl (.cons rfl rfl (.one (.same _ (by simp)) rfl) (of_decide_eq_true rfl) (.cons rfl rfl (.one (.same _ (by simp)) rfl) (of_decide_eq_true rfl) (.cons rfl rfl (.one (.ag ⟨.same _ (by simp), .view rfl, trivial⟩) rfl) (of_decide_eq_true rfl) (.cons rfl rfl (.same (by simp)) (of_decide_eq_true rfl) (trivial))))) ⟨⟨_, rfl, .same _ (by simp)⟩, ⟨_, rfl, .same _ (by simp)⟩, ⟨_, rfl, .ref rfl⟩, ⟨_, rfl, .ref rfl⟩, ⟨_, rfl, .ref rfl⟩, ⟨_, rfl, .same _ (by simp)⟩, ⟨_, rfl, .same _ (by simp)⟩, ⟨_, rfl, .any _⟩, ⟨_, rfl, .any _⟩, ⟨_, rfl, .any _⟩, ⟨_, rfl, .any _⟩, ⟨_, rfl, .same _ (by simp)⟩, trivial⟩)
                  · intro K17 hK17
                    refine awp_seqK fun K18 hK18 => ?_
                    refine awp_reg rfl ?_
                    refine AR.op (r := bl (decide (y464 = b_2))) rfl (aop_move (.inl rfl) rfl) ?_
                    refine AR.op (r := bl (!(decide (y464 = b_2)))) rfl (aop_not rfl rfl) ?_
                    refine AR.nil ?_
                    refine hK18 _ (AWP.weak (Weak.re (fr' := [(1, i64 a_1), (2, i64 b_2), (3, .ref 0 0 0), (6, .ref 1 0 0), (7, .ref 2 0 0), (8, i64 x384), (9, i64 y464), (10, bl r481), (11, bl in483), (12, bl (decide (y464 = b_2))), (45, bl (!(decide (y464 = b_2))))]) (H' := ⟨4, [(0, (2, [G.inquestref12_G.av c_0])), (1, (2, [.agg [i64 0, nilS]])), (2, (2, [.agg [i64 r145.N, .view 3 0 (List.map u64 dRows463).length]])), (3, (1, List.map u64 dRows463))]⟩) [(0, 0), (1, 1), (2, 2), (3, 3)] [] rfl rfl rfl (.cons rfl rfl (.one (.same _ (by simp)) rfl) (of_decide_eq_true rfl) (.cons rfl rfl (.one (.same _ (by simp)) rfl) (of_decide_eq_true rfl) (.cons rfl rfl (.one (.ag ⟨.same _ (by simp), .view rfl, trivial⟩) rfl) (of_decide_eq_true rfl) (.cons rfl rfl (.same (by simp)) (of_decide_eq_true rfl) (trivial))))) ⟨⟨_, rfl, .same _ (by simp)⟩, ⟨_, rfl, .same _ (by simp)⟩, ⟨_, rfl, .ref rfl⟩, ⟨_, rfl, .ref rfl⟩, ⟨_, rfl, .ref rfl⟩, ⟨_, rfl, .same _ (by simp)⟩, ⟨_, rfl, .same _ (by simp)⟩, ⟨_, rfl, .same _ (by simp)⟩, ⟨_, rfl, .same _ (by simp)⟩, ⟨_, rfl, .same _ (by simp)⟩, ⟨_, rfl, .same _ (by simp)⟩, trivial⟩) ?_)
                    clear hK18 K18
                    refine awp_cond rfl (fun hb497 => ?_) (fun hb497 => ?_)
                    · replace h := Sh.if_t h hb497
                      refine awp_reg rfl ?_
                      refine AR.op (r := G.inquestref12_G.av c_0) rfl (aop_load_ref rfl rfl rfl rfl sz26 rfl) ?_
                      refine AR.op (r := i64 b_2) rfl (aop_move (.inl rfl) rfl) ?_
                      refine AR.op (r := i64 y464) rfl (aop_move (.inl rfl) rfl) ?_
                      refine AR.drop (frx := [(1, _), (2, _), (3, _), (6, _), (7, _), (8, _), (9, _), (10, _), (11, _), (46, _), (47, _), (48, _)]) ⟨rfl, rfl, rfl, rfl, rfl, rfl, rfl, rfl, rfl, rfl, rfl, rfl, trivial⟩ ?_
                      obtain ⟨r498, hr498, h⟩ := Sh.bind_some' h
                      refine AR.op (r := bl r498) rfl (aop_call1 rfl rfl (by simp) (inquestref12_Has_ok hT hr498)) ?_
                      refine AR.op (r := bl r498) rfl (aop_move (.inr rfl) rfl) ?_
                      refine AR.nil ?_
                      exact hK17 r498 _ h (Weak.re (fr' := [(1, i64 a_1), (2, i64 b_2), (3, .ref 0 0 0), (6, .ref 1 0 0), (7, .ref 2 0 0), (8, i64 x384), (9, i64 y464), (10, bl r481), (11, bl in483), (12, bl r498)]) (H' := ⟨4, [(0, (2, [G.inquestref12_G.av c_0])), (1, (2, [.agg [i64 0, nilS]])), (2, (2, [.agg [i64 r145.N, .view 3 0 (List.map u64 dRows463).length]])), (3, (1, List.map u64 dRows463))]⟩) [(0, 0), (1, 1), (2, 2), (3, 3)] [] rfl rfl rfl (.cons rfl rfl (.one (.same _ (by simp)) rfl) (of_decide_eq_true rfl) (.cons rfl rfl (.one (.same _ (by simp)) rfl) (of_decide_eq_true rfl) (.cons rfl rfl (.one (.ag ⟨.same _ (by simp), .view rfl, trivial⟩) rfl) (of_decide_eq_true rfl) (.cons rfl rfl (.same (by simp)) (of_decide_eq_true rfl) (trivial))))) ⟨⟨_, rfl, .same _ (by simp)⟩, ⟨_, rfl, .same _ (by simp)⟩, ⟨_, rfl, .ref rfl⟩, ⟨_, rfl, .ref rfl⟩, ⟨_, rfl, .ref rfl⟩, ⟨_, rfl, .same _ (by simp)⟩, ⟨_, rfl, .same _ (by simp)⟩, ⟨_, rfl, .same _ (by simp)⟩, ⟨_, rfl, .same _ (by simp)⟩, ⟨_, rfl, .same _ (by simp)⟩, trivial⟩)
                    · replace h := Sh.if_f h hb497
                      refine awp_skip ?_
                      exact hK17 (decide (y464 = b_2)) _ h (Weak.re (fr' := [(1, i64 a_1), (2, i64 b_2), (3, .ref 0 0 0), (6, .ref 1 0 0), (7, .ref 2 0 0), (8, i64 x384), (9, i64 y464), (10, bl r481), (11, bl in483), (12, bl (decide (y464 = b_2)))]) (H' := ⟨4, [(0, (2, [G.inquestref12_G.av c_0])), (1, (2, [.agg [i64 0, nilS]])), (2, (2, [.agg [i64 r145.N, .view 3 0 (List.map u64 dRows463).length]])), (3, (1, List.map u64 dRows463))]⟩) [(0, 0), (1, 1), (2, 2), (3, 3)] [] rfl rfl rfl (.cons rfl rfl (.one (.same _ (by simp)) rfl) (of_decide_eq_true rfl) (.cons rfl rfl (.one (.same _ (by simp)) rfl) (of_decide_eq_true rfl) (.cons rfl rfl (.one (.ag ⟨.same _ (by simp), .view rfl, trivial⟩) rfl) (of_decide_eq_true rfl) (.cons rfl rfl (.same (by simp)) (of_decide_eq_true rfl) (trivial))))) ⟨⟨_, rfl, .same _ (by simp)⟩, ⟨_, rfl, .same _ (by simp)⟩, ⟨_, rfl, .ref rfl⟩, ⟨_, rfl, .ref rfl⟩, ⟨_, rfl, .ref rfl⟩, ⟨_, rfl, .same _ (by simp)⟩, ⟨_, rfl, .same _ (by simp)⟩, ⟨_, rfl, .same _ (by simp)⟩, ⟨_, rfl, .same _ (by simp)⟩, ⟨_, rfl, .same _ (by simp)⟩, trivial⟩)
                · intro K19 hK19
                  refine awp_seqK fun K20 hK20 => ?_
                  refine awp_reg rfl ?_
                  refine AR.op (r := bl (decide (x384 = a_1))) rfl (aop_move (.inl rfl) rfl) ?_
                  refine AR.op (r := bl (!(decide (x384 = a_1)))) rfl (aop_not rfl rfl) ?_
                  refine AR.nil ?_
                  refine hK20 _ (AWP.weak (Weak.re (fr' := [(1, i64 a_1), (2, i64 b_2), (3, .ref 0 0 0), (6, .ref 1 0 0), (7, .ref 2 0 0), (8, i64 x384), (9, i64 y464), (10, bl r481), (11, bl (decide (x384 = a_1))), (36, bl (!(decide (x384 = a_1))))]) (H' := ⟨4, [(0, (2, [G.inquestref12_G.av c_0])), (1, (2, [.agg [i64 0, nilS]])), (2, (2, [.agg [i64 r145.N, .view 3 0 (List.map u64 dRows463).length]])), (3, (1, List.map u64 dRows463))]⟩) [(0, 0), (1, 1), (2, 2), (3, 3)] [] rfl rfl rfl (.cons rfl rfl (.one (.same _ (by simp)) rfl) (of_decide_eq_true rfl) (.cons rfl rfl (.one (.same _ (by simp)) rfl) (of_decide_eq_true rfl) (.cons rfl rfl (.one (.ag ⟨.same _ (by simp), .view rfl, trivial⟩) rfl) (of_decide_eq_true rfl) (.cons rfl rfl (.same (by simp)) (of_decide_eq_true rfl) (trivial))))) ⟨⟨_, rfl, .same _ (by simp)⟩, ⟨_, rfl, .same _ (by simp)⟩, ⟨_, rfl, .ref rfl⟩, ⟨_, rfl, .ref rfl⟩, ⟨_, rfl, .ref rfl⟩, ⟨_, rfl, .same _ (by simp)⟩, ⟨_, rfl, .same _ (by simp)⟩, ⟨_, rfl, .same _ (by simp)⟩, ⟨_, rfl, .same _ (by simp)⟩, ⟨_, rfl, .same _ (by simp)⟩, trivial⟩) ?_)
                  clear hK20 K20
                  refine awp_cond rfl (fun hb499 => ?_) (fun hb499 => ?_)
                  · replace h := Sh.if_t h hb499
                    refine awp_reg rfl ?_
                    refine AR.op (r := G.inquestref12_G.av c_0) rfl (aop_load_ref rfl rfl rfl rfl sz26 rfl) ?_
                    refine AR.op (r := i64 x384) rfl (aop_move (.inl rfl) rfl) ?_
                    refine AR.op (r := i64 a_1) rfl (aop_move (.inl rfl) rfl) ?_
                    refine AR.drop (frx := [(1, _), (2, _), (3, _), (6, _), (7, _), (8, _), (9, _), (10, _), (37, _), (38, _), (39, _)]) ⟨rfl, rfl, rfl, rfl, rfl, rfl, rfl, rfl, rfl, rfl, rfl, trivial⟩ ?_
                    obtain ⟨r500, hr500, h⟩ := Sh.bind_some' h
                    refine AR.op (r := bl r500) rfl (aop_call1 rfl rfl (by simp) (inquestref12_Has_ok hT hr500)) ?_
                    refine AR.op (r := bl r500) rfl (aop_move (.inr rfl) rfl) ?_
                    refine AR.nil ?_
                    exact hK19 r500 _ h (Weak.re (fr' := [(1, i64 a_1), (2, i64 b_2), (3, .ref 0 0 0), (6, .ref 1 0 0), (7, .ref 2 0 0), (8, i64 x384), (9, i64 y464), (10, bl r481), (11, bl r500)]) (H' := ⟨4, [(0, (2, [G.inquestref12_G.av c_0])), (1, (2, [.agg [i64 0, nilS]])), (2, (2, [.agg [i64 r145.N, .view 3 0 (List.map u64 dRows463).length]])), (3, (1, List.map u64 dRows463))]⟩) [(0, 0), (1, 1), (2, 2), (3, 3)] [] rfl rfl rfl (.cons rfl rfl (.one (.same _ (by simp)) rfl) (of_decide_eq_true rfl) (.cons rfl rfl (.one (.same _ (by simp)) rfl) (of_decide_eq_true rfl) (.cons rfl rfl (.one (.ag ⟨.same _ (by simp), .view rfl, trivial⟩) rfl) (of_decide_eq_true rfl) (.cons rfl rfl (.same (by simp)) (of_decide_eq_true rfl) (trivial))))) ⟨⟨_, rfl, .same _ (by simp)⟩, ⟨_, rfl, .same _ (by simp)⟩, ⟨_, rfl, .ref rfl⟩, ⟨_, rfl, .ref rfl⟩, ⟨_, rfl, .ref rfl⟩, ⟨_, rfl, .same _ (by simp)⟩, ⟨_, rfl, .same _ (by simp)⟩, ⟨_, rfl, .same _ (by simp)⟩, ⟨_, rfl, .same _ (by simp)⟩, trivial⟩)
                  · replace h := Sh.if_f h hb499
                    refine awp_skip ?_
                    exact hK19 (decide (x384 = a_1)) _ h (Weak.re (fr' := [(1, i64 a_1), (2, i64 b_2), (3, .ref 0 0 0), (6, .ref 1 0 0), (7, .ref 2 0 0), (8, i64 x384), (9, i64 y464), (10, bl r481), (11, bl (decide (x384 = a_1)))]) (H' := ⟨4, [(0, (2, [G.inquestref12_G.av c_0])), (1, (2, [.agg [i64 0, nilS]])), (2, (2, [.agg [i64 r145.N, .view 3 0 (List.map u64 dRows463).length]])), (3, (1, List.map u64 dRows463))]⟩) [(0, 0), (1, 1), (2, 2), (3, 3)] [] rfl rfl rfl (.cons rfl rfl (.one (.same _ (by simp)) rfl) (of_decide_eq_true rfl) (.cons rfl rfl (.one (.same _ (by simp)) rfl) (of_decide_eq_true rfl) (.cons rfl rfl (.one (.ag ⟨.same _ (by simp), .view rfl, trivial⟩) rfl) (of_decide_eq_true rfl) (.cons rfl rfl (.same (by simp)) (of_decide_eq_true rfl) (trivial))))) ⟨⟨_, rfl, .same _ (by simp)⟩, ⟨_, rfl, .same _ (by simp)⟩, ⟨_, rfl, .ref rfl⟩, ⟨_, rfl, .ref rfl⟩, ⟨_, rfl, .ref rfl⟩, ⟨_, rfl, .same _ (by simp)⟩, ⟨_, rfl, .same _ (by simp)⟩, ⟨_, rfl, .same _ (by simp)⟩, ⟨_, rfl, .same _ (by simp)⟩, trivial⟩)
            · replace h := Sh.if_f h hb465
              refine awp_exit ?_
              replace h := Sh.exit_eq h hx2
              exact hK8 dRows463 _ h (Weak.re (fr' := [(1, i64 a_1), (2, i64 b_2), (3, .ref 0 0 0), (6, .ref 1 0 0), (7, .ref 2 0 0), (8, i64 x384)]) (H' := ⟨4, [(0, (2, [G.inquestref12_G.av c_0])), (1, (2, [.agg [i64 0, nilS]])), (2, (2, [.agg [i64 r145.N, .view 3 0 (List.map u64 dRows463).length]])), (3, (1, List.map u64 dRows463))]⟩) [(0, 0), (1, 1), (2, 2), (3, 3)] [] rfl rfl rfl (.cons rfl rfl (.one (.same _ (by simp)) rfl) (of_decide_eq_true rfl) (.cons rfl rfl (.one (.same _ (by simp)) rfl) (of_decide_eq_true rfl) (.cons rfl rfl (.one (.ag ⟨.same _ (by simp), .view rfl, trivial⟩) rfl) (of_decide_eq_true rfl) (.cons rfl rfl (.same (by simp)) (of_decide_eq_true rfl) (trivial))))) ⟨⟨_, rfl, .same _ (by simp)⟩, ⟨_, rfl, .same _ (by simp)⟩, ⟨_, rfl, .ref rfl⟩, ⟨_, rfl, .ref rfl⟩, ⟨_, rfl, .ref rfl⟩, ⟨_, rfl, .same _ (by simp)⟩, trivial⟩)
      · replace h := Sh.if_f h hb385
        refine awp_exit ?_
        replace h := Sh.exit_eq h hx1
        exact hK4 dRows383 _ h (Weak.re (fr' := [(6, .ref 0 0 0), (7, .ref 1 0 0)]) (H' := ⟨3, [(0, (2, [.agg [i64 0, nilS]])), (1, (2, [.agg [i64 r145.N, .view 2 0 (List.map u64 dRows383).length]])), (2, (1, List.map u64 dRows383))]⟩) [(0, 1), (1, 2), (2, 3)] [] rfl rfl rfl (.cons rfl rfl (.one (.same _ (by simp)) rfl) (of_decide_eq_true rfl) (.cons rfl rfl (.one (.ag ⟨.same _ (by simp), .view rfl, trivial⟩) rfl) (of_decide_eq_true rfl) (.cons rfl rfl (.same (by simp)) (of_decide_eq_true rfl) (trivial)))) ⟨⟨_, rfl, .ref rfl⟩, ⟨_, rfl, .ref rfl⟩, trivial⟩)
theorem inquestref13_More_ok {W0 : World} (hT : Tab W0) {c_0 : G.inquestref12_G} {a_1 : Int} {b_2 : Int} {r : G.inquestref12_G} (h : G.inquestref13_More c_0 a_1 b_2 = some r) : Fun1 Tryd.prog W0 37 [G.inquestref12_G.av c_0, i64 a_1, i64 b_2] (G.inquestref12_G.av r) :=
  (inquestref13_More_own hT h).give (Weak.re [] [] rfl rfl rfl trivial ⟨⟨_, rfl, .ag ⟨.same _ (by simp), .lendAll rfl rfl (by simp), trivial⟩⟩, trivial⟩) (by simp)

end Wk
