/- That the functions of a package do what their plain functions say. -/
import Derived.Test.YtkiiigfefobdlaaDoorSh
import Derived.Test.YtkiiigfefobdlaaDoorWkCFacts
import Derived.Test.YtkiiigfefobdlaaDoorWkCinquestref10
import Derived.Test.YtkiiigfefobdlaaDoorWkCinquestref12
open Go Go.Av Go.Proofs
set_option linter.unusedVariables false
set_option maxHeartbeats 8000000
set_option maxRecDepth 20000
namespace Wk
theorem inquestref13_Close_ok0 {W0 : World} (hT : Tab W0) {g_0 : G.inquestref12_G} {r : G.inquestref12_G} (h : G.inquestref13_Close g_0 = some r) : Fun2 Tryd.prog W0 52 [G.inquestref12_G.av g_0] (G.inquestref12_G.av r) .empty := by
 refine fun2_of_awp Tryd.func52 rfl (by kernel_rfl) Tryd.ntmps52 (by simp) ?_
 unfold G.inquestref13_Close at h
 show AWP _ _ _ _ ⟨[(0, G.inquestref12_G.av g_0)], .empty⟩ _
 refine awp_seqK fun K1 hK1 => awp_reg rfl <| AR.op (r := .ref 0 0 0) rfl (aop_box 2 [G.inquestref12_G.av g_0] rfl rfl rfl (.inl ⟨rfl, rfl⟩)) <| AR.op (r := .ref 1 0 0) rfl (aop_alloc 2 [.agg [i64 0, nilS]] rfl zr27 (by kernel_rfl) (.inl ⟨rfl, rfl⟩)) <| AR.nil <| hK1 _ (AWP.weak (Weak.re (fr' := [(1, .pp [i64 g_0.N, .sl (List.map u64 g_0.Rows)] 0), (2, .ref 0 0 0)]) (H' := ⟨1, [(0, (2, [.agg [i64 0, nilS]]))], []⟩) [(0, 1)] [] rfl rfl rfl (.cons rfl rfl (.one (.sm) rfl) dt trivial) ⟨⟨_, rfl, .frzA rfl rfl rfl rfl (by simp)⟩, ⟨_, rfl, .ref rfl⟩, trivial⟩) ?_)
 refine awp_seqK fun K2 hK2 => awp_reg rfl <| AR.op (r := G.inquestref12_G.av g_0) rfl (aop_load_pp rfl rfl sz27 rfl) <| AR.op (r := .ref 1 0 0) rfl (aop_alloc 2 [.agg [i64 0, nilS]] rfl zr27 (by kernel_rfl) (.inl ⟨rfl, rfl⟩)) <| AR.op rfl (aop_store (e' := G.inquestref12_G.av g_0) rfl rfl rfl rfl rfl rfl sz27 rfl dt rfl) <| AR.nil <| hK2 _ (AWP.weak (Weak.kt [1, 2, 3] rfl) ?_)
 refine awp_seqJ (fun (p : G.inquestref12_G) => (⟨[(2, .ref 0 0 0), (3, .ref 1 0 0)], ⟨2, [(0, (2, [.agg [i64 0, nilS]])), (1, (2, [G.inquestref12_G.av p]))], []⟩⟩ : St)) (fun (p : G.inquestref12_G) => G.inquestref13_Close_j1 p = some r) ?_ ?_
 ·rintro v763 h
  replace h : G.inquestref13_Close_j1 v763 = some r := h
  unfold G.inquestref13_Close_j1 at h
  refine awp_seqK fun K3 hK3 => awp_reg rfl <| AR.op (r := G.inquestref12_G.av v763) rfl (aop_load_ref rfl rfl rfl rfl sz27 rfl) <| AR.op rfl (aop_store (e' := G.inquestref12_G.av v763) rfl rfl rfl rfl rfl rfl sz27 rfl dt rfl) <| AR.nil <| hK3 _ (AWP.weak (Weak.re (fr' := [(2, .ref 0 0 0)]) (H' := ⟨1, [(0, (2, [G.inquestref12_G.av v763]))], []⟩) [(0, 0)] [] rfl rfl rfl (.cons rfl rfl (.one (.sm) rfl) dt trivial) ⟨⟨_, rfl, .ref rfl⟩, trivial⟩) ?_)
  refine awp_ret ?_
  obtain rfl := Option.some.inj h
  refine ⟨.inr rfl, G.inquestref12_G.av v763, rfl, ?_⟩
  exact Weak.e ⟨⟨G.inquestref12_G.av v763, rfl, .sm⟩, trivial⟩
 ·intro K4 hK4
  refine awp_seqK fun K5 hK5 => awp_reg rfl <| AR.op rfl (aop_move (.inr rfl) rfl) <| AR.nil <| hK5 _ ?_
  refine awp_block <| awp_iter (fun (p : Int × (List (BitVec 64)) × Int) => G.inquestref13_Close_b1 g_0 p.1 p.2.1 p.2.2) (fun (p : Int × (List (BitVec 64)) × Int) => (⟨[(1, .pp [i64 g_0.N, .sl (List.map u64 g_0.Rows)] 0), (2, .ref 0 0 0), (3, .ref 1 0 0), (4, i64 p.2.2)], ⟨2, [(0, (2, [.agg [i64 0, nilS]])), (1, (2, [.agg [i64 p.1, .sl (List.map u64 p.2.1)]]))], []⟩⟩ : St)) h (Weak.re [(0, 0), (1, 1)] [] rfl rfl rfl (.cons rfl rfl (.one (.sm) rfl) dt (.cons rfl rfl (.one (.sm) rfl) dt trivial)) ⟨.k, ⟨_, rfl, .ref rfl⟩, ⟨_, rfl, .ref rfl⟩, .k, trivial⟩) ?_
  ·skip
   rintro ⟨cN1017, cRows1018, k1019⟩ o1 h hx1
   replace h : G.inquestref13_Close_b1 g_0 cN1017 cRows1018 k1019 = some o1 := h
   unfold G.inquestref13_Close_b1 at h
   refine awp_seqK fun K6 hK6 => awp_seqK fun K7 hK7 => awp_reg rfl <| AR.op rfl (aop_move (.inl rfl) rfl) <| AR.op rfl (aop_field_pp rfl rfl fd27_0 (by decide)) <| AR.op (r := i64 g_0.N) rfl (aop_load_pp rfl rfl sz3 rfl) <| AR.keep [1, 2, 3, 4, 12, 14] rfl <| AR.op rfl (aop_lss rfl rfl rfl) ?_
   refine AR.nil <| hK7 _ (AWP.weak (Weak.kt [1, 2, 3, 4, 15] rfl) ?_)
   refine awp_cond rfl (fun hb1020 => ?_) (fun hb1020 => ?_)
   ·replace h := Sh.if_t h hb1020
    refine awp_skip <| hK6 _ (AWP.weak (Weak.kt [1, 2, 3, 4] rfl) ?_)
    refine awp_seqJ (fun (p : Int × (List (BitVec 64))) => (⟨[(1, .pp [i64 g_0.N, .sl (List.map u64 g_0.Rows)] 0), (2, .ref 0 0 0), (3, .ref 1 0 0), (4, i64 k1019)], ⟨3, [(0, (2, [.agg [i64 0, nilS]])), (1, (2, [.agg [i64 p.1, .view 2 0 (List.map u64 p.2).length]])), (2, (1, List.map u64 p.2))], []⟩⟩ : St)) (fun (p : Int × (List (BitVec 64))) => G.inquestref13_Close_j2 k1019 p.1 p.2 = some o1) ?_ ?_
    ·rintro ⟨v1146, v1147⟩ h
     replace h : G.inquestref13_Close_j2 k1019 v1146 v1147 = some o1 := h
     unfold G.inquestref13_Close_j2 at h
     refine awp_reg rfl <| AR.op rfl (aop_move (.inl rfl) rfl) <| AR.op rfl (aop_add rfl rfl rfl rfl) <| AR.op rfl (aop_move (.inr rfl) rfl) <| AR.nil ?_
     replace h := Sh.next_eq h
     exact ⟨_, h, Weak.re [(0, 0), (1, 1)] [] rfl rfl rfl (.cons rfl rfl (.one (.sm) rfl) dt (.cons rfl rfl (.one (.ag ⟨.sm, .lendAll rfl rfl (by simp), trivial⟩) rfl) dt trivial)) ⟨.k, ⟨_, rfl, .ref rfl⟩, ⟨_, rfl, .ref rfl⟩, .k, trivial⟩⟩
    ·intro K8 hK8
     refine awp_block <| awp_seqK fun K9 hK9 => awp_reg rfl <| AR.op rfl (aop_field_pp rfl rfl fd27_0 (by decide)) <| AR.op (r := i64 g_0.N) rfl (aop_load_pp rfl rfl sz3 rfl) ?_
     obtain ⟨r1149, hr1149, h⟩ := Sh.bind_some' h
     refine AR.op (r := .agg [i64 r1149.N, .view 2 0 (List.map u64 r1149.Rows).length]) rfl (aop_call2N (.agg [i64 r1149.N, .view 2 0 (List.map u64 r1149.Rows).length]) [(2, (1, List.map u64 r1149.Rows))] rfl (ys := [i64 g_0.N]) (xs := [i64 g_0.N]) rfl (Weak.refl _) rfl (by simp) (inquestref12_New_own hT hr1149) (.ag ⟨.sm, .view _ _ _, trivial⟩) ⟨rfl, rfl, .same (by simp [AV.flat]), trivial⟩) <| AR.keep [1, 2, 3, 4, 20] rfl <| AR.op (r := .ref 3 0 0) rfl (aop_alloc 2 [.agg [i64 0, nilS]] rfl zr27 (by kernel_rfl) (.inl ⟨rfl, rfl⟩)) <| AR.op rfl (aop_store (e' := .agg [i64 r1149.N, .view 2 0 (List.map u64 r1149.Rows).length]) rfl rfl rfl rfl rfl rfl sz27 rfl dt rfl) <| AR.nil <| hK9 _ (AWP.weak (Weak.re (fr' := [(1, .pp [i64 g_0.N, .sl (List.map u64 g_0.Rows)] 0), (2, .ref 0 0 0), (3, .ref 1 0 0), (4, i64 k1019), (5, .ref 2 0 0)]) (H' := ⟨4, [(0, (2, [.agg [i64 0, nilS]])), (1, (2, [.agg [i64 cN1017, .sl (List.map u64 cRows1018)]])), (2, (2, [.agg [i64 r1149.N, .view 3 0 (List.map u64 r1149.Rows).length]])), (3, (1, List.map u64 r1149.Rows))], []⟩) [(0, 0), (1, 1), (2, 3), (3, 2)] [] rfl rfl rfl (.cons rfl rfl (.one (.sm) rfl) dt (.cons rfl rfl (.one (.sm) rfl) dt (.cons rfl rfl (.one (.ag ⟨.sm, .view rfl, trivial⟩) rfl) dt (.cons rfl rfl (.same (by simp)) dt trivial)))) ⟨.k, ⟨_, rfl, .ref rfl⟩, ⟨_, rfl, .ref rfl⟩, .k, ⟨_, rfl, .ref rfl⟩, trivial⟩) ?_)
     refine awp_seqJ (fun (p : (List (BitVec 64))) => (⟨[(1, .pp [i64 g_0.N, .sl (List.map u64 g_0.Rows)] 0), (2, .ref 0 0 0), (3, .ref 1 0 0), (4, i64 k1019), (5, .ref 2 0 0)], ⟨4, [(0, (2, [.agg [i64 0, nilS]])), (1, (2, [.agg [i64 cN1017, .sl (List.map u64 cRows1018)]])), (2, (2, [.agg [i64 r1149.N, .view 3 0 (List.map u64 p).length]])), (3, (1, List.map u64 p))], []⟩⟩ : St)) (fun (p : (List (BitVec 64))) => G.inquestref13_Close_j3 k1019 r1149 p = some o1) ?_ ?_
     ·rintro v1274 h
      replace h : G.inquestref13_Close_j3 k1019 r1149 v1274 = some o1 := h
      unfold G.inquestref13_Close_j3 at h
      refine awp_reg rfl <| AR.op (r := .agg [i64 r1149.N, .view 3 0 (List.map u64 v1274).length]) rfl (aop_load_ref rfl rfl rfl rfl sz27 rfl) <| AR.op rfl (aop_store (e' := .agg [i64 r1149.N, .view 3 0 (List.map u64 v1274).length]) rfl rfl rfl rfl rfl rfl sz27 rfl dt rfl) <| AR.nil ?_
      exact hK8 (r1149.N, v1274) _ h (Weak.re [(0, 0), (1, 1), (2, 3)] [] rfl rfl rfl (.cons rfl rfl (.one (.sm) rfl) dt (.cons rfl rfl (.one (.ag ⟨.sm, .view rfl, trivial⟩) rfl) dt (.cons rfl rfl (.same (by simp)) dt trivial))) ⟨.k, ⟨_, rfl, .ref rfl⟩, ⟨_, rfl, .ref rfl⟩, .k, trivial⟩)
     ·intro K10 hK10
      refine awp_seqK fun K11 hK11 => awp_reg rfl <| AR.op rfl (aop_move (.inr rfl) rfl) <| AR.nil <| hK11 _ ?_
      refine awp_block <| awp_iter (fun (p : (List (BitVec 64)) × Int) => G.inquestref13_Close_b2 g_0 cN1017 cRows1018 k1019 r1149 p.1 p.2) (fun (p : (List (BitVec 64)) × Int) => (⟨[(1, .pp [i64 g_0.N, .sl (List.map u64 g_0.Rows)] 0), (2, .ref 0 0 0), (3, .ref 1 0 0), (4, i64 k1019), (5, .ref 2 0 0), (6, i64 p.2)], ⟨4, [(0, (2, [.agg [i64 0, nilS]])), (1, (2, [.agg [i64 cN1017, .sl (List.map u64 cRows1018)]])), (2, (2, [.agg [i64 r1149.N, .view 3 0 (List.map u64 p.1).length]])), (3, (1, List.map u64 p.1))], []⟩⟩ : St)) h (Weak.kt [1, 2, 3, 4, 5, 6] rfl) ?_
      ·skip
       rintro ⟨dRows1357, x1358⟩ o2 h hx2
       replace h : G.inquestref13_Close_b2 g_0 cN1017 cRows1018 k1019 r1149 dRows1357 x1358 = some o2 := h
       unfold G.inquestref13_Close_b2 at h
       refine awp_seqK fun K12 hK12 => awp_seqK fun K13 hK13 => awp_reg rfl <| AR.op rfl (aop_move (.inl rfl) rfl) <| AR.op rfl (aop_field_pp rfl rfl fd27_0 (by decide)) <| AR.op (r := i64 g_0.N) rfl (aop_load_pp rfl rfl sz3 rfl) <| AR.keep [1, 2, 3, 4, 5, 6, 21, 23] rfl <| AR.op rfl (aop_lss rfl rfl rfl) ?_
       refine AR.nil <| hK13 _ (AWP.weak (Weak.kt [1, 2, 3, 4, 5, 6, 24] rfl) ?_)
       refine awp_cond rfl (fun hb1359 => ?_) (fun hb1359 => ?_)
       ·replace h := Sh.if_t h hb1359
        refine awp_skip <| hK12 _ (AWP.weak (Weak.kt [1, 2, 3, 4, 5, 6] rfl) ?_)
        refine awp_seqJ (fun (p : (List (BitVec 64))) => (⟨[(1, .pp [i64 g_0.N, .sl (List.map u64 g_0.Rows)] 0), (2, .ref 0 0 0), (3, .ref 1 0 0), (4, i64 k1019), (5, .ref 2 0 0), (6, i64 x1358)], ⟨4, [(0, (2, [.agg [i64 0, nilS]])), (1, (2, [.agg [i64 cN1017, .sl (List.map u64 cRows1018)]])), (2, (2, [.agg [i64 r1149.N, .view 3 0 (List.map u64 p).length]])), (3, (1, List.map u64 p))], []⟩⟩ : St)) (fun (p : (List (BitVec 64))) => G.inquestref13_Close_j4 x1358 p = some o2) ?_ ?_
        ·rintro v1400 h
         replace h : G.inquestref13_Close_j4 x1358 v1400 = some o2 := h
         unfold G.inquestref13_Close_j4 at h
         refine awp_reg rfl <| AR.op rfl (aop_move (.inl rfl) rfl) <| AR.op rfl (aop_add rfl rfl rfl rfl) <| AR.op rfl (aop_move (.inr rfl) rfl) <| AR.nil ?_
         replace h := Sh.next_eq h
         exact ⟨_, h, Weak.kt [1, 2, 3, 4, 5, 6] rfl⟩
        ·intro K14 hK14
         refine awp_block <| awp_seqK fun K15 hK15 => awp_reg rfl <| AR.op rfl (aop_move (.inr rfl) rfl) <| AR.nil <| hK15 _ ?_
         refine awp_block <| awp_iter (fun (p : (List (BitVec 64)) × Int) => G.inquestref13_Close_b3 g_0 cN1017 cRows1018 k1019 x1358 p.1 p.2) (fun (p : (List (BitVec 64)) × Int) => (⟨[(1, .pp [i64 g_0.N, .sl (List.map u64 g_0.Rows)] 0), (2, .ref 0 0 0), (3, .ref 1 0 0), (4, i64 k1019), (5, .ref 2 0 0), (6, i64 x1358), (7, i64 p.2)], ⟨4, [(0, (2, [.agg [i64 0, nilS]])), (1, (2, [.agg [i64 cN1017, .sl (List.map u64 cRows1018)]])), (2, (2, [.agg [i64 r1149.N, .view 3 0 (List.map u64 p.1).length]])), (3, (1, List.map u64 p.1))], []⟩⟩ : St)) h (Weak.kt [1, 2, 3, 4, 5, 6, 7] rfl) ?_
         ·skip
          rintro ⟨dRows1427, y1428⟩ o3 h hx3
          replace h : G.inquestref13_Close_b3 g_0 cN1017 cRows1018 k1019 x1358 dRows1427 y1428 = some o3 := h
          unfold G.inquestref13_Close_b3 at h
          refine awp_seqK fun K16 hK16 => awp_seqK fun K17 hK17 => awp_reg rfl <| AR.op rfl (aop_move (.inl rfl) rfl) <| AR.op rfl (aop_field_pp rfl rfl fd27_0 (by decide)) <| AR.op (r := i64 g_0.N) rfl (aop_load_pp rfl rfl sz3 rfl) <| AR.keep [1, 2, 3, 4, 5, 6, 7, 27, 29] rfl <| AR.op rfl (aop_lss rfl rfl rfl) ?_
          refine AR.nil <| hK17 _ (AWP.weak (Weak.kt [1, 2, 3, 4, 5, 6, 7, 30] rfl) ?_)
          refine awp_cond rfl (fun hb1429 => ?_) (fun hb1429 => ?_)
          ·replace h := Sh.if_t h hb1429
           refine awp_skip <| hK16 _ (AWP.weak (Weak.kt [1, 2, 3, 4, 5, 6, 7] rfl) ?_)
           refine awp_seqJ (fun (p : (List (BitVec 64))) => (⟨[(1, .pp [i64 g_0.N, .sl (List.map u64 g_0.Rows)] 0), (2, .ref 0 0 0), (3, .ref 1 0 0), (4, i64 k1019), (5, .ref 2 0 0), (6, i64 x1358), (7, i64 y1428)], ⟨4, [(0, (2, [.agg [i64 0, nilS]])), (1, (2, [.agg [i64 cN1017, .sl (List.map u64 cRows1018)]])), (2, (2, [.agg [i64 r1149.N, .view 3 0 (List.map u64 p).length]])), (3, (1, List.map u64 p))], []⟩⟩ : St)) (fun (p : (List (BitVec 64))) => G.inquestref13_Close_j5 y1428 p = some o3) ?_ ?_
           ·rintro dRows1441 h
            replace h : G.inquestref13_Close_j5 y1428 dRows1441 = some o3 := h
            unfold G.inquestref13_Close_j5 at h
            refine awp_reg rfl <| AR.op rfl (aop_move (.inl rfl) rfl) <| AR.op rfl (aop_add rfl rfl rfl rfl) <| AR.op rfl (aop_move (.inr rfl) rfl) <| AR.nil ?_
            replace h := Sh.next_eq h
            exact ⟨_, h, Weak.kt [1, 2, 3, 4, 5, 6, 7] rfl⟩
           ·intro K18 hK18
            refine awp_block <| awp_seqK fun K19 hK19 => awp_reg rfl <| AR.op (r := .agg [i64 cN1017, .sl (List.map u64 cRows1018)]) rfl (aop_load_ref rfl rfl rfl rfl sz27 rfl) <| AR.op rfl (aop_move (.inl rfl) rfl) <| AR.op rfl (aop_move (.inl rfl) rfl) <| AR.keep [1, 2, 3, 4, 5, 6, 7, 33, 34, 35] rfl ?_
            obtain ⟨r1443, hr1443, h⟩ := Sh.bind_some' h
            refine AR.op (r := bl r1443) rfl (aop_callN rfl (ys := [.agg [i64 cN1017, .sl (List.map u64 cRows1018)], i64 x1358, i64 y1428]) (xs := [G.inquestref12_G.av (G.inquestref12_G.mk cN1017 cRows1018), i64 x1358, i64 y1428]) rfl (Weak.e (fr' := argsFr 0 [G.inquestref12_G.av (G.inquestref12_G.mk cN1017 cRows1018), i64 x1358, i64 y1428]) (H' := .empty) ⟨⟨.agg [i64 cN1017, .sl (List.map u64 cRows1018)], rfl, .sm⟩, .k, .k, trivial⟩) rfl (by simp) (inquestref12_Has_ok hT hr1443)) <| AR.op rfl (aop_move (.inr rfl) rfl) <| AR.nil <| hK19 _ (AWP.weak (Weak.kt [1, 2, 3, 4, 5, 6, 7, 8] rfl) ?_)
            refine awp_seqK fun K20 hK20 => awp_reg rfl <| AR.op (r := .agg [i64 cN1017, .sl (List.map u64 cRows1018)]) rfl (aop_load_ref rfl rfl rfl rfl sz27 rfl) <| AR.op rfl (aop_move (.inl rfl) rfl) <| AR.op rfl (aop_move (.inl rfl) rfl) <| AR.keep [1, 2, 3, 4, 5, 6, 7, 8, 37, 38, 39] rfl ?_
            obtain ⟨r1445, hr1445, h⟩ := Sh.bind_some' h
            refine AR.op (r := bl r1445) rfl (aop_callN rfl (ys := [.agg [i64 cN1017, .sl (List.map u64 cRows1018)], i64 x1358, i64 k1019]) (xs := [G.inquestref12_G.av (G.inquestref12_G.mk cN1017 cRows1018), i64 x1358, i64 k1019]) rfl (Weak.e (fr' := argsFr 0 [G.inquestref12_G.av (G.inquestref12_G.mk cN1017 cRows1018), i64 x1358, i64 k1019]) (H' := .empty) ⟨⟨.agg [i64 cN1017, .sl (List.map u64 cRows1018)], rfl, .sm⟩, .k, .k, trivial⟩) rfl (by simp) (inquestref12_Has_ok hT hr1445)) <| AR.op rfl (aop_move (.inr rfl) rfl) <| AR.nil <| hK20 _ (AWP.weak (Weak.kt [1, 2, 3, 4, 5, 6, 7, 8, 9] rfl) ?_)
            refine awp_seqK fun K21 hK21 => awp_reg rfl <| AR.op (r := .agg [i64 cN1017, .sl (List.map u64 cRows1018)]) rfl (aop_load_ref rfl rfl rfl rfl sz27 rfl) <| AR.op rfl (aop_move (.inl rfl) rfl) <| AR.op rfl (aop_move (.inl rfl) rfl) <| AR.keep [1, 2, 3, 4, 5, 6, 7, 8, 9, 41, 42, 43] rfl ?_
            obtain ⟨r1447, hr1447, h⟩ := Sh.bind_some' h
            refine AR.op (r := bl r1447) rfl (aop_callN rfl (ys := [.agg [i64 cN1017, .sl (List.map u64 cRows1018)], i64 k1019, i64 y1428]) (xs := [G.inquestref12_G.av (G.inquestref12_G.mk cN1017 cRows1018), i64 k1019, i64 y1428]) rfl (Weak.e (fr' := argsFr 0 [G.inquestref12_G.av (G.inquestref12_G.mk cN1017 cRows1018), i64 k1019, i64 y1428]) (H' := .empty) ⟨⟨.agg [i64 cN1017, .sl (List.map u64 cRows1018)], rfl, .sm⟩, .k, .k, trivial⟩) rfl (by simp) (inquestref12_Has_ok hT hr1447)) <| AR.op rfl (aop_move (.inr rfl) rfl) <| AR.nil <| hK21 _ (AWP.weak (Weak.kt [1, 2, 3, 4, 5, 6, 7, 8, 9, 10] rfl) ?_)
            refine awp_seqJ (fun (p : Bool) => (⟨[(1, .pp [i64 g_0.N, .sl (List.map u64 g_0.Rows)] 0), (2, .ref 0 0 0), (3, .ref 1 0 0), (4, i64 k1019), (5, .ref 2 0 0), (6, i64 x1358), (7, i64 y1428), (51, bl p)], ⟨4, [(0, (2, [.agg [i64 0, nilS]])), (1, (2, [.agg [i64 cN1017, .sl (List.map u64 cRows1018)]])), (2, (2, [.agg [i64 r1149.N, .view 3 0 (List.map u64 dRows1427).length]])), (3, (1, List.map u64 dRows1427))], []⟩⟩ : St)) (fun (p : Bool) => G.inquestref13_Close_j6 x1358 dRows1427 y1428 p = some o3) ?_ ?_
            ·rintro v1450 h
             replace h : G.inquestref13_Close_j6 x1358 dRows1427 y1428 v1450 = some o3 := h
             unfold G.inquestref13_Close_j6 at h
             refine awp_cond rfl (fun hb1451 => ?_) (fun hb1451 => ?_)
             ·replace h := Sh.if_t h hb1451
              refine awp_any [(false, false), (false, false), (true, false), (false, false), (false, false), (true, false), (false, false), (false, false), (true, false), (true, false), (false, false), (false, true)] (by kernel_rfl) (by kernel_rfl) rfl ?_
              refine ARH.op rfl rfl (aop_field_ref rfl rfl rfl fd27_1 (by decide)) <| ARH.op (r := .view 3 0 (List.map u64 dRows1427).length) rfl rfl (aop_load_ref rfl rfl rfl rfl sz22 rfl) <| ARH.dry rfl (fun _ => aop_move (.inl rfl) rfl) <| ARH.keep [1, 2, 3, 4, 5, 6, 7, 53, 54] rfl <| ARH.op rfl rfl (aop_field_ref rfl rfl rfl fd27_1 (by decide)) <| ARH.op (r := .view 3 0 (List.map u64 dRows1427).length) rfl rfl (aop_load_ref rfl rfl rfl rfl sz22 rfl) <| ARH.dry rfl (fun _ => aop_move (.inl rfl) rfl) <| ARH.keep [1, 2, 3, 4, 5, 6, 7, 53, 54, 56, 57] rfl ?_
              obtain ⟨x1452, hx1452, h⟩ := Sh.bind_some' h
              obtain ⟨k1453, hi1453, hl1453⟩ := Sh.idx_some hx1452
              refine ARH.op (r := .ref 3 k1453 0) rfl rfl (t_index_view u64 dRows1427 hi1453 hl1453 rfl rfl rfl rfl rfl el22 rfl) <| ARH.op (r := u64 x1452) rfl rfl (t_load_el u64 dRows1427 hl1453 rfl rfl rfl sz35 rfl) <| ARH.dry rfl (fun _ => aop_move (.inl rfl) rfl) <| ARH.keep [1, 2, 3, 4, 5, 6, 7, 53, 54, 59, 60] rfl ?_
              obtain ⟨r1454, hr1454, h⟩ := Sh.bind_some' h
              refine ARH.dry (r := u64 r1454) rfl (fun _ => aop_call1 rfl rfl (by simp) (inquestref10_With_ok hT hr1454)) ?_
              obtain ⟨x1455, hx1455, h⟩ := Sh.bind_some' h
              obtain ⟨k1456, hi1456, hl1456⟩ := Sh.idx_some hx1455
              refine ARH.op (r := .ref 3 k1456 0) rfl rfl (t_index_view u64 dRows1427 hi1456 hl1456 rfl rfl rfl rfl rfl el22 rfl) <| ARH.loud rfl rfl (t_store_el u64 dRows1427 r1454 hi1456 hl1456 rfl rfl rfl rfl rfl sz35 rfl dt rfl) <| ARH.nil ?_
              exact hK18 (Sh.set dRows1427 x1358 r1454) _ h (Weak.re [(0, 0), (1, 1), (2, 2), (3, 3)] [] rfl rfl rfl (.cons rfl rfl (.one (.sm) rfl) dt (.cons rfl rfl (.one (.sm) rfl) dt (.cons rfl rfl (.one (.ag ⟨.sm, .viewL rfl (by simp []), trivial⟩) rfl) dt (.cons rfl rfl (.same (by simp)) dt trivial)))) ⟨.k, ⟨_, rfl, .ref rfl⟩, ⟨_, rfl, .ref rfl⟩, .k, ⟨_, rfl, .ref rfl⟩, .k, .k, trivial⟩)
             ·replace h := Sh.if_f h hb1451
              refine awp_skip ?_
              exact hK18 dRows1427 _ h (Weak.kt [1, 2, 3, 4, 5, 6, 7] rfl)
            ·intro K22 hK22
             refine awp_reg rfl <| AR.op rfl (aop_move (.inl rfl) rfl) <| AR.op rfl (aop_move (.inl rfl) rfl) ?_
             rcases Bool.eq_false_or_eq_true (r1443) with hb1457 | hb1457
             ·rw [hb1457]
              replace h := Sh.if_t h hb1457
              refine AR.skip rfl <| AR.keep [1, 2, 3, 4, 5, 6, 7, 10, 46, 47] rfl <| AR.skip rfl <| AR.skip rfl <| AR.skip rfl <| AR.keep [1, 2, 3, 4, 5, 6, 7, 46, 47, 48, 49, 50] rfl <| AR.op rfl (aop_pick rfl rfl rfl) <| AR.nil ?_
              exact hK22 true _ h (Weak.kt [1, 2, 3, 4, 5, 6, 7, 51] rfl)
             ·rw [hb1457]
              replace h := Sh.if_f h hb1457
              refine AR.op rfl (aop_move (.inl rfl) rfl) <| AR.keep [1, 2, 3, 4, 5, 6, 7, 10, 46, 47] rfl <| AR.op rfl (aop_move (.inl rfl) rfl) ?_
              rcases Bool.eq_false_or_eq_true (r1445) with hb1458 | hb1458
              ·rw [hb1458]
               replace h := Sh.if_t h hb1458
               refine AR.op rfl (aop_move (.inl rfl) rfl) <| AR.op rfl (aop_pick rfl rfl rfl) <| AR.keep [1, 2, 3, 4, 5, 6, 7, 46, 47, 48, 49, 50] rfl <| AR.op rfl (aop_pick rfl rfl rfl) <| AR.nil ?_
               exact hK22 r1447 _ h (Weak.kt [1, 2, 3, 4, 5, 6, 7, 51] rfl)
              ·rw [hb1458]
               replace h := Sh.if_f h hb1458
               refine AR.skip rfl <| AR.op rfl (aop_pick rfl rfl rfl) <| AR.keep [1, 2, 3, 4, 5, 6, 7, 46, 47, 48, 49, 50] rfl <| AR.op rfl (aop_pick rfl rfl rfl) <| AR.nil ?_
               exact hK22 false _ h (Weak.kt [1, 2, 3, 4, 5, 6, 7, 51] rfl)
          ·replace h := Sh.if_f h hb1429
           refine awp_exit ?_
           replace h := Sh.exit_eq h hx3
           exact hK14 dRows1427 _ h (Weak.kt [1, 2, 3, 4, 5, 6] rfl)
       ·replace h := Sh.if_f h hb1359
        refine awp_exit ?_
        replace h := Sh.exit_eq h hx2
        exact hK10 dRows1357 _ h (Weak.kt [1, 2, 3, 4, 5] rfl)
   ·replace h := Sh.if_f h hb1020
    refine awp_exit ?_
    replace h := Sh.exit_eq h hx1
    exact hK4 (G.inquestref12_G.mk cN1017 cRows1018) _ h (Weak.re [(0, 0), (1, 1)] [] rfl rfl rfl (.cons rfl rfl (.one (.sm) rfl) dt (.cons rfl rfl (.one (.sm) rfl) dt trivial)) ⟨⟨_, rfl, .ref rfl⟩, ⟨_, rfl, .ref rfl⟩, trivial⟩)
theorem inquestref13_Close_ok {W0 : World} (hT : Tab W0) {g_0 : G.inquestref12_G} {r : G.inquestref12_G} (h : G.inquestref13_Close g_0 = some r) : Fun1 Tryd.prog W0 52 [G.inquestref12_G.av g_0] (G.inquestref12_G.av r) := Fun1.two (inquestref13_Close_ok0 hT h) (by simp)

end Wk
