/- That a statement does what its plain function says. -/
import Derived.Test.YtmnmbaehidfebaaWkFinquestlaw24
open Go Go.Av Go.Proofs
set_option linter.unusedVariables false
set_option maxHeartbeats 8000000
set_option maxRecDepth 20000
namespace Wk
theorem inquestlaw24_RefuteJoins_ok0 {W0 : World} (hT : Tab W0) {x_0 : G.inquestlaw24_Case} {c_1 : G.api_Choice} {other_2 : List G.refute_Node} {r : Bool} (h : G.inquestlaw24_RefuteJoins x_0 c_1 other_2 = some r) : Fun2 Try.prog W0 6 [G.inquestlaw24_Case.av x_0, G.api_Choice.av c_1, .sl (List.map G.refute_Node.av other_2)] (bl r) .empty := by
 refine fun2_of_awp Try.func6 rfl (by kernel_rfl) Try.ntmps6 (by simp) ?_
 unfold G.inquestlaw24_RefuteJoins at h
 show AWP _ _ _ _ ⟨[(0, G.inquestlaw24_Case.av x_0), (1, G.api_Choice.av c_1), (2, .sl (List.map G.refute_Node.av other_2))], .empty⟩ _
 refine awp_seqK fun K1 hK1 => awp_reg rfl <| AR.op (r := .ref 0 0 0) rfl (aop_box 4 [G.inquestlaw24_Case.av x_0] rfl rfl rfl (.inl ⟨rfl, rfl⟩)) <| AR.op (r := .ref 1 0 0) rfl (aop_box 3 [G.api_Choice.av c_1] rfl rfl rfl (.inl ⟨rfl, rfl⟩)) <| AR.op rfl (aop_move (.inr rfl) rfl) <| AR.nil <| hK1 _ (AWP.weak (Weak.e (fr' := [(2, .sl (List.map G.refute_Node.av other_2)), (3, .pp [.sl (List.map G.api_Txn.av x_0.H.Txns), i64 x_0.Level, .sl (List.map G.api_Choice.av x_0.L), .sl (List.map G.refute_Node.av x_0.Tree)] 0), (4, .pp [i64 c_1.Key, i64 c_1.A, i64 c_1.B] 0)]) (H' := .empty) ⟨⟨.sl (List.map G.refute_Node.av other_2), rfl, .sm⟩, ⟨_, rfl, .frzA rfl rfl rfl rfl (by simp)⟩, ⟨_, rfl, .frzA rfl rfl rfl rfl (by simp)⟩, trivial⟩) ?_)
 refine awp_seqK fun K2 hK2 => awp_reg rfl ?_
 obtain ⟨r31, hr31, h⟩ := Sh.bind_some' h
 refine AR.op (r := bl r31) rfl (aop_call1 rfl rfl (by simp) (inquestlaw24_awake_ok hT hr31)) <| AR.op rfl (aop_move (.inr rfl) rfl) <| AR.nil <| hK2 _ (AWP.weak (Weak.kt [2, 3, 4, 7] rfl) ?_)
 refine awp_seqK fun K3 hK3 => awp_seqK fun K4 hK4 => awp_reg rfl <| AR.op rfl (aop_move (.inl rfl) rfl) <| AR.op (r := bl (!r31)) rfl (aop_not rfl rfl) <| AR.nil <| hK4 _ (AWP.weak (Weak.kt [2, 3, 4, 27] rfl) ?_)
 refine awp_cond rfl (fun hb32 => ?_) (fun hb32 => ?_)
 ·replace h := Sh.if_t h hb32
  refine awp_seqK fun K5 hK5 => awp_reg rfl <| AR.op rfl (aop_move (.inr rfl) rfl) <| AR.nil <| hK5 _ (AWP.weak (Weak.kt [6] rfl) ?_)
  refine awp_ret ?_
  obtain rfl := Option.some.inj h
  refine ⟨.inr rfl, bl false, rfl, ?_⟩
  exact Weak.e ⟨.k, trivial⟩
 ·replace h := Sh.if_f h hb32
  refine awp_skip <| hK3 _ (AWP.weak (Weak.kt [2, 3, 4] rfl) ?_)
  refine awp_seqK fun K6 hK6 => awp_reg rfl <| AR.op (r := G.inquestlaw24_Case.av x_0) rfl (aop_load_pp rfl rfl sz28 rfl) ?_
  obtain ⟨r34, hr34, h⟩ := Sh.bind_some' h
  refine AR.op (r := bl r34) rfl (aop_call1 rfl rfl (by simp) (inquestlaw24_few_ok hT hr34)) <| AR.op rfl (aop_move (.inr rfl) rfl) <| AR.nil <| hK6 _ (AWP.weak (Weak.kt [2, 3, 4, 8] rfl) ?_)
  refine awp_seqK fun K7 hK7 => awp_reg rfl <| AR.op (r := G.inquestlaw24_Case.av x_0) rfl (aop_load_pp rfl rfl sz28 rfl) <| AR.op (r := .ref 0 0 0) rfl (aop_alloc 4 [.agg [nilS, i64 0, nilS, nilS]] rfl zr28 (by kernel_rfl) (.inl ⟨rfl, rfl⟩)) <| AR.op rfl (aop_store (e' := G.inquestlaw24_Case.av x_0) rfl rfl rfl rfl rfl rfl sz28 rfl dt rfl) <| AR.nil <| hK7 _ (AWP.weak (Weak.kt [2, 3, 4, 8, 9] rfl) ?_)
  refine awp_seqK fun K8 hK8 => awp_reg rfl <| AR.op rfl (aop_move (.inl rfl) rfl) <| AR.op rfl (aop_field_ref rfl rfl rfl fd28_3 (by decide)) <| AR.op rfl (aop_store (e' := .agg [.sl (List.map G.api_Txn.av x_0.H.Txns), i64 x_0.Level, .sl (List.map G.api_Choice.av x_0.L), .sl (List.map G.refute_Node.av other_2)]) rfl rfl rfl rfl rfl rfl sz26 rfl dt rfl) <| AR.nil <| hK8 _ (AWP.weak (Weak.kt [2, 3, 4, 8, 9] rfl) ?_)
  refine awp_seqK fun K9 hK9 => awp_reg rfl <| AR.op (r := .agg [.sl (List.map G.api_Txn.av x_0.H.Txns), i64 x_0.Level, .sl (List.map G.api_Choice.av x_0.L), .sl (List.map G.refute_Node.av other_2)]) rfl (aop_load_ref rfl rfl rfl rfl sz28 rfl) ?_
  obtain ⟨r36, hr36, h⟩ := Sh.bind_some' h
  refine AR.op (r := bl r36) rfl (aop_callN rfl (ys := [.agg [.sl (List.map G.api_Txn.av x_0.H.Txns), i64 x_0.Level, .sl (List.map G.api_Choice.av x_0.L), .sl (List.map G.refute_Node.av other_2)], i64 12, i64 60]) (xs := [G.inquestlaw24_Case.av (G.inquestlaw24_Case.mk (G.api_Hist.mk x_0.H.Txns) x_0.Level x_0.L other_2), i64 12, i64 60]) rfl (Weak.e (fr' := argsFr 0 [G.inquestlaw24_Case.av (G.inquestlaw24_Case.mk (G.api_Hist.mk x_0.H.Txns) x_0.Level x_0.L other_2), i64 12, i64 60]) (H' := .empty) ⟨⟨.agg [.sl (List.map G.api_Txn.av x_0.H.Txns), i64 x_0.Level, .sl (List.map G.api_Choice.av x_0.L), .sl (List.map G.refute_Node.av other_2)], rfl, .sm⟩, .k, .k, trivial⟩) rfl (by simp) (inquestlaw24_few_ok hT hr36)) <| AR.op rfl (aop_move (.inr rfl) rfl) <| AR.nil <| hK9 _ (AWP.weak (Weak.e (fr' := [(2, .sl (List.map G.refute_Node.av other_2)), (3, .pp [.sl (List.map G.api_Txn.av x_0.H.Txns), i64 x_0.Level, .sl (List.map G.api_Choice.av x_0.L), .sl (List.map G.refute_Node.av x_0.Tree)] 0), (4, .pp [i64 c_1.Key, i64 c_1.A, i64 c_1.B] 0), (8, bl r34), (10, bl r36)]) (H' := .empty) ⟨⟨.sl (List.map G.refute_Node.av other_2), rfl, .sm⟩, .k, .k, .k, .k, trivial⟩) ?_)
  refine awp_seqK fun K10 hK10 => awp_seqJ (fun (p : Bool) => (⟨[(2, .sl (List.map G.refute_Node.av other_2)), (3, .pp [.sl (List.map G.api_Txn.av x_0.H.Txns), i64 x_0.Level, .sl (List.map G.api_Choice.av x_0.L), .sl (List.map G.refute_Node.av x_0.Tree)] 0), (4, .pp [i64 c_1.Key, i64 c_1.A, i64 c_1.B] 0), (40, bl p)], .empty⟩ : St)) (fun (p : Bool) => G.inquestlaw24_RefuteJoins_j1 x_0 c_1 other_2 p = some r) ?_ ?_
  ·rintro v40 h
   replace h : G.inquestlaw24_RefuteJoins_j1 x_0 c_1 other_2 v40 = some r := h
   unfold G.inquestlaw24_RefuteJoins_j1 at h
   refine awp_cond rfl (fun hb41 => ?_) (fun hb41 => ?_)
   ·replace h := Sh.if_t h hb41
    refine awp_seqK fun K11 hK11 => awp_reg rfl <| AR.op rfl (aop_move (.inr rfl) rfl) <| AR.nil <| hK11 _ (AWP.weak (Weak.kt [6] rfl) ?_)
    refine awp_ret ?_
    obtain rfl := Option.some.inj h
    refine ⟨.inr rfl, bl true, rfl, ?_⟩
    exact Weak.e ⟨.k, trivial⟩
   ·replace h := Sh.if_f h hb41
    refine awp_skip <| hK10 _ (AWP.weak (Weak.kt [2, 3, 4] rfl) ?_)
    refine awp_seqK fun K12 hK12 => awp_reg rfl <| AR.op rfl (aop_field_pp rfl rfl fd28_3 (by decide)) <| AR.op (r := .sl (List.map G.refute_Node.av x_0.Tree)) rfl (aop_load_pp rfl rfl sz26 rfl) ?_
    obtain ⟨r43, hr43, h⟩ := Sh.bind_some' h
    refine AR.op (r := .tuple [i64 r43.1, i64 r43.2.1, bl r43.2.2]) rfl (aop_call1 rfl rfl (by simp) (refute_Shape_ok hT hr43)) <| AR.keep [2, 3, 4, 44] rfl <| AR.op rfl (aop_move (.inl rfl) rfl) <| AR.op (r := i64 r43.1) rfl (aop_extract rfl rfl rfl) <| AR.op (r := i64 r43.2.1) rfl (aop_extract rfl rfl rfl) <| AR.keep [2, 3, 4, 41, 45, 46] rfl <| AR.op (r := bl r43.2.2) rfl (aop_extract rfl rfl rfl) <| AR.op rfl (aop_move (.inr rfl) rfl) ?_
    refine AR.op rfl (aop_move (.inr rfl) rfl) <| AR.keep [2, 3, 4, 47, 11, 12] rfl <| AR.op rfl (aop_move (.inr rfl) rfl) <| AR.nil <| hK12 _ (AWP.weak (Weak.kt [2, 3, 4, 11, 12, 13] rfl) ?_)
    refine awp_seqK fun K13 hK13 => awp_reg rfl <| AR.op rfl (aop_move (.inl rfl) rfl) ?_
    obtain ⟨r45, hr45, h⟩ := Sh.bind_some' h
    refine AR.op (r := .tuple [i64 r45.1, i64 r45.2.1, bl r45.2.2]) rfl (aop_call1 rfl rfl (by simp) (refute_Shape_ok hT hr45)) <| AR.op rfl (aop_move (.inl rfl) rfl) <| AR.keep [2, 3, 4, 11, 12, 13, 48] rfl <| AR.op (r := i64 r45.1) rfl (aop_extract rfl rfl rfl) <| AR.op (r := i64 r45.2.1) rfl (aop_extract rfl rfl rfl) <| AR.op (r := bl r45.2.2) rfl (aop_extract rfl rfl rfl) <| AR.keep [2, 3, 4, 11, 12, 13, 51, 52, 53] rfl <| AR.op rfl (aop_move (.inr rfl) rfl) ?_
    refine AR.op rfl (aop_move (.inr rfl) rfl) <| AR.op rfl (aop_move (.inr rfl) rfl) <| AR.nil <| hK13 _ (AWP.weak (Weak.kt [2, 3, 4, 11, 12, 13, 14, 15, 16] rfl) ?_)
    refine awp_seqK fun K14 hK14 => awp_seqJ (fun (p : Bool) => (⟨[(2, .sl (List.map G.refute_Node.av other_2)), (3, .pp [.sl (List.map G.api_Txn.av x_0.H.Txns), i64 x_0.Level, .sl (List.map G.api_Choice.av x_0.L), .sl (List.map G.refute_Node.av x_0.Tree)] 0), (4, .pp [i64 c_1.Key, i64 c_1.A, i64 c_1.B] 0), (11, i64 r43.1), (12, i64 r43.2.1), (14, i64 r45.1), (15, i64 r45.2.1), (59, bl p)], .empty⟩ : St)) (fun (p : Bool) => G.inquestlaw24_RefuteJoins_j2 x_0 c_1 other_2 r43 r45 p = some r) ?_ ?_
    ·rintro v49 h
     replace h : G.inquestlaw24_RefuteJoins_j2 x_0 c_1 other_2 r43 r45 v49 = some r := h
     unfold G.inquestlaw24_RefuteJoins_j2 at h
     refine awp_cond rfl (fun hb50 => ?_) (fun hb50 => ?_)
     ·replace h := Sh.if_t h hb50
      refine awp_seqK fun K15 hK15 => awp_reg rfl <| AR.op rfl (aop_move (.inr rfl) rfl) <| AR.nil <| hK15 _ (AWP.weak (Weak.kt [6] rfl) ?_)
      refine awp_ret ?_
      obtain rfl := Option.some.inj h
      refine ⟨.inr rfl, bl true, rfl, ?_⟩
      exact Weak.e ⟨.k, trivial⟩
     ·replace h := Sh.if_f h hb50
      refine awp_skip <| hK14 _ (AWP.weak (Weak.kt [2, 3, 4, 11, 12, 14, 15] rfl) ?_)
      refine awp_seqK fun K16 hK16 => awp_reg rfl <| AR.op rfl (aop_move (.inr rfl) rfl) <| AR.nil <| hK16 _ ?_
      refine awp_seqK fun K17 hK17 => awp_reg rfl <| AR.op rfl (aop_move (.inl rfl) rfl) <| AR.op (r := G.api_Choice.av c_1) rfl (aop_load_pp rfl rfl sz42 rfl) <| AR.op (r := .agg [i64 c_1.Key, i64 c_1.A, i64 c_1.B, nilS]) rfl (aop_build rfl bd46 rfl rfl rfl) <| AR.keep [2, 3, 4, 11, 12, 14, 15, 60, 62] rfl <| AR.op (r := .clip (List.map G.refute_Node.av ([(G.refute_Node.mk (G.api_Choice.mk c_1.Key c_1.A c_1.B) [])] : List G.refute_Node))) rfl ((aop_buildSlice (xs := [.agg [i64 c_1.Key, i64 c_1.A, i64 c_1.B, nilS]]) rfl (xo := [.tmp 62]) rfl rfl rfl (by simp [AV.solid]) (by simp [AV.flat]) el26 ze26 (by decide)).clipw ⟨⟨.same _, .same _, .same _, .nil, trivial⟩, trivial⟩) ?_
      obtain ⟨all52, hall52, h⟩ := Sh.bind_some' h
      refine AR.op (r := .view 0 0 (List.map G.refute_Node.av all52).length) rfl (t_app_nil G.refute_Node.av ([(G.refute_Node.mk (G.api_Choice.mk c_1.Key c_1.A c_1.B) [])] : List G.refute_Node) all52 hall52 et26 (fun _ => rfl) rfl rfl rfl rfl rfl) <| AR.op rfl (aop_move (.inr rfl) rfl) <| AR.nil <| hK17 _ (AWP.weak (Weak.kt [2, 3, 4, 11, 12, 14, 15, 17] rfl) ?_)
      refine awp_seqK fun K18 hK18 => awp_reg rfl <| AR.op rfl (aop_move (.inl rfl) rfl) <| AR.op rfl (aop_field_pp rfl rfl fd28_3 (by decide)) <| AR.op (r := .sl (List.map G.refute_Node.av x_0.Tree)) rfl (aop_load_pp rfl rfl sz26 rfl) <| AR.keep [2, 3, 4, 11, 12, 14, 15, 65, 67] rfl ?_
      obtain ⟨all54, hall54, h⟩ := Sh.bind_some' h
      refine AR.op (r := .view 1 0 (List.map G.refute_Node.av all54).length) rfl (t_app_view G.refute_Node.av all52 x_0.Tree all54 hall54 rfl et26 (fun _ => rfl) rfl rfl rfl rfl rfl rfl rfl) <| AR.op rfl (aop_move (.inr rfl) rfl) <| AR.nil <| hK18 _ (AWP.weak (Weak.re (fr' := [(2, .sl (List.map G.refute_Node.av other_2)), (3, .pp [.sl (List.map G.api_Txn.av x_0.H.Txns), i64 x_0.Level, .sl (List.map G.api_Choice.av x_0.L), .sl (List.map G.refute_Node.av x_0.Tree)] 0), (4, .pp [i64 c_1.Key, i64 c_1.A, i64 c_1.B] 0), (11, i64 r43.1), (12, i64 r43.2.1), (14, i64 r45.1), (15, i64 r45.2.1), (17, .view 0 0 (List.map G.refute_Node.av all54).length)]) (H' := ⟨1, [(0, (4, List.map G.refute_Node.av all54))], []⟩) [(0, 1)] [] rfl rfl rfl (.cons rfl rfl (.same (by simp)) dt trivial) ⟨⟨.sl (List.map G.refute_Node.av other_2), rfl, .sm⟩, .k, .k, .k, .k, .k, .k, ⟨_, rfl, .view rfl⟩, trivial⟩) ?_)
      refine awp_seqK fun K19 hK19 => awp_reg rfl <| AR.op rfl (aop_move (.inl rfl) rfl) <| AR.op rfl (aop_move (.inl rfl) rfl) ?_
      obtain ⟨all56, hall56, h⟩ := Sh.bind_some' h
      refine AR.op (r := .view 1 0 (List.map G.refute_Node.av all56).length) rfl (t_app_view G.refute_Node.av all54 other_2 all56 hall56 rfl et26 (fun _ => rfl) rfl rfl rfl rfl rfl rfl rfl) <| AR.keep [2, 3, 4, 11, 12, 14, 15, 71] rfl <| AR.op rfl (aop_move (.inr rfl) rfl) <| AR.nil <| hK19 _ (AWP.weak (Weak.e (fr' := [(2, .sl (List.map G.refute_Node.av other_2)), (3, .pp [.sl (List.map G.api_Txn.av x_0.H.Txns), i64 x_0.Level, .sl (List.map G.api_Choice.av x_0.L), .sl (List.map G.refute_Node.av x_0.Tree)] 0), (4, .pp [i64 c_1.Key, i64 c_1.A, i64 c_1.B] 0), (11, i64 r43.1), (12, i64 r43.2.1), (14, i64 r45.1), (15, i64 r45.2.1), (17, .sl (List.map G.refute_Node.av all56))]) (H' := .empty) ⟨⟨.sl (List.map G.refute_Node.av other_2), rfl, .sm⟩, .k, .k, .k, .k, .k, .k, ⟨_, rfl, .lendAll rfl rfl (by simp)⟩, trivial⟩) ?_)
      refine awp_seqK fun K20 hK20 => awp_reg rfl <| AR.op rfl (aop_move (.inl rfl) rfl) ?_
      obtain ⟨r58, hr58, h⟩ := Sh.bind_some' h
      refine AR.op (r := .tuple [i64 r58.1, i64 r58.2.1, bl r58.2.2]) rfl (aop_call1 rfl rfl (by simp) (refute_Shape_ok hT hr58)) <| AR.op rfl (aop_move (.inl rfl) rfl) <| AR.keep [2, 3, 4, 11, 12, 14, 15, 17, 72] rfl <| AR.op (r := i64 r58.1) rfl (aop_extract rfl rfl rfl) <| AR.op (r := i64 r58.2.1) rfl (aop_extract rfl rfl rfl) <| AR.op (r := bl r58.2.2) rfl (aop_extract rfl rfl rfl) <| AR.keep [2, 3, 4, 11, 12, 14, 15, 17, 75, 76, 77] rfl <| AR.op rfl (aop_move (.inr rfl) rfl) ?_
      refine AR.op rfl (aop_move (.inr rfl) rfl) <| AR.op rfl (aop_move (.inr rfl) rfl) <| AR.nil <| hK20 _ (AWP.weak (Weak.kt [2, 3, 4, 11, 12, 14, 15, 17, 18, 19, 20] rfl) ?_)
      refine awp_seqK fun K21 hK21 => awp_seqJ (fun (p : Bool) => (⟨[(2, .sl (List.map G.refute_Node.av other_2)), (3, .pp [.sl (List.map G.api_Txn.av x_0.H.Txns), i64 x_0.Level, .sl (List.map G.api_Choice.av x_0.L), .sl (List.map G.refute_Node.av x_0.Tree)] 0), (4, .pp [i64 c_1.Key, i64 c_1.A, i64 c_1.B] 0), (17, .sl (List.map G.refute_Node.av all56)), (94, bl p)], .empty⟩ : St)) (fun (p : Bool) => G.inquestlaw24_RefuteJoins_j3 x_0 c_1 other_2 all56 p = some r) ?_ ?_
      ·rintro v64 h
       replace h : G.inquestlaw24_RefuteJoins_j3 x_0 c_1 other_2 all56 v64 = some r := h
       unfold G.inquestlaw24_RefuteJoins_j3 at h
       refine awp_cond rfl (fun hb65 => ?_) (fun hb65 => ?_)
       ·replace h := Sh.if_t h hb65
        refine awp_seqK fun K22 hK22 => awp_reg rfl <| AR.op rfl (aop_move (.inr rfl) rfl) <| AR.nil <| hK22 _ (AWP.weak (Weak.kt [6] rfl) ?_)
        refine awp_ret ?_
        obtain rfl := Option.some.inj h
        refine ⟨.inr rfl, bl false, rfl, ?_⟩
        exact Weak.e ⟨.k, trivial⟩
       ·replace h := Sh.if_f h hb65
        refine awp_skip <| hK21 _ (AWP.weak (Weak.kt [2, 3, 4, 17] rfl) ?_)
        refine awp_seqK fun K23 hK23 => awp_reg rfl <| AR.op rfl (aop_move (.inr rfl) rfl) <| AR.nil <| hK23 _ ?_
        refine awp_seqK fun K24 hK24 => awp_reg rfl <| AR.op rfl (aop_move (.inl rfl) rfl) <| AR.op rfl (aop_field_pp rfl rfl fd28_2 (by decide)) <| AR.op (r := .sl (List.map G.api_Choice.av x_0.L)) rfl (aop_load_pp rfl rfl sz25 rfl) <| AR.keep [2, 3, 4, 17, 95, 97] rfl ?_
        obtain ⟨forth67, hforth67, h⟩ := Sh.bind_some' h
        refine AR.op (r := .view 0 0 (List.map G.api_Choice.av forth67).length) rfl (t_app_nil G.api_Choice.av x_0.L forth67 hforth67 et25 (fun _ => rfl) rfl rfl rfl rfl rfl) <| AR.op rfl (aop_move (.inr rfl) rfl) <| AR.nil <| hK24 _ (AWP.weak (Weak.kt [2, 3, 4, 17, 21] rfl) ?_)
        refine awp_seqK fun K25 hK25 => awp_reg rfl <| AR.op rfl (aop_move (.inl rfl) rfl) <| AR.op (r := G.api_Choice.av c_1) rfl (aop_load_pp rfl rfl sz42 rfl) <| AR.op (r := .clip (List.map G.api_Choice.av ([c_1] : List G.api_Choice))) rfl (aop_buildSlice rfl (xo := [.tmp 100]) rfl rfl rfl (by simp) (by simp) el25 ze25 (by decide)) <| AR.keep [2, 3, 4, 17, 99, 101] rfl ?_
        obtain ⟨forth69, hforth69, h⟩ := Sh.bind_some' h
        refine AR.op (r := .view 1 0 (List.map G.api_Choice.av forth69).length) rfl (t_app_view G.api_Choice.av forth67 ([c_1] : List G.api_Choice) forth69 hforth69 rfl et25 (fun _ => rfl) rfl rfl rfl rfl rfl rfl rfl) <| AR.op rfl (aop_move (.inr rfl) rfl) <| AR.nil <| hK25 _ (AWP.weak (Weak.e (fr' := [(2, .sl (List.map G.refute_Node.av other_2)), (3, .pp [.sl (List.map G.api_Txn.av x_0.H.Txns), i64 x_0.Level, .sl (List.map G.api_Choice.av x_0.L), .sl (List.map G.refute_Node.av x_0.Tree)] 0), (4, .pp [i64 c_1.Key, i64 c_1.A, i64 c_1.B] 0), (17, .sl (List.map G.refute_Node.av all56)), (21, .sl (List.map G.api_Choice.av forth69))]) (H' := .empty) ⟨⟨.sl (List.map G.refute_Node.av other_2), rfl, .sm⟩, .k, .k, ⟨.sl (List.map G.refute_Node.av all56), rfl, .sm⟩, ⟨_, rfl, .lendAll rfl rfl (by simp)⟩, trivial⟩) ?_)
        refine awp_seqK fun K26 hK26 => awp_reg rfl <| AR.op rfl (aop_move (.inr rfl) rfl) <| AR.nil <| hK26 _ ?_
        refine awp_seqK fun K27 hK27 => awp_reg rfl <| AR.op rfl (aop_move (.inl rfl) rfl) <| AR.op rfl (aop_field_pp rfl rfl fd28_2 (by decide)) <| AR.op (r := .sl (List.map G.api_Choice.av x_0.L)) rfl (aop_load_pp rfl rfl sz25 rfl) <| AR.keep [2, 3, 4, 17, 21, 103, 105] rfl ?_
        obtain ⟨back71, hback71, h⟩ := Sh.bind_some' h
        refine AR.op (r := .view 0 0 (List.map G.api_Choice.av back71).length) rfl (t_app_nil G.api_Choice.av x_0.L back71 hback71 et25 (fun _ => rfl) rfl rfl rfl rfl rfl) <| AR.op rfl (aop_move (.inr rfl) rfl) <| AR.nil <| hK27 _ (AWP.weak (Weak.kt [2, 3, 4, 17, 21, 22] rfl) ?_)
        refine awp_seqK fun K28 hK28 => awp_reg rfl <| AR.op rfl (aop_move (.inl rfl) rfl) <| AR.op (r := G.api_Choice.av c_1) rfl (aop_load_pp rfl rfl sz42 rfl) ?_
        obtain ⟨r74, hr74, h⟩ := Sh.bind_some' h
        refine AR.op (r := G.api_Choice.av r74) rfl (aop_call1 rfl rfl (by simp) (inquestref18_Back_ok hT hr74)) <| AR.keep [2, 3, 4, 17, 21, 107, 109] rfl <| AR.op (r := .clip (List.map G.api_Choice.av ([r74] : List G.api_Choice))) rfl (aop_buildSlice rfl (xo := [.tmp 109]) rfl rfl rfl (by simp) (by simp) el25 ze25 (by decide)) ?_
        obtain ⟨back75, hback75, h⟩ := Sh.bind_some' h
        refine AR.op (r := .view 1 0 (List.map G.api_Choice.av back75).length) rfl (t_app_view G.api_Choice.av back71 ([r74] : List G.api_Choice) back75 hback75 rfl et25 (fun _ => rfl) rfl rfl rfl rfl rfl rfl rfl) <| AR.op rfl (aop_move (.inr rfl) rfl) <| AR.nil <| hK28 _ (AWP.weak (Weak.e (fr' := [(2, .sl (List.map G.refute_Node.av other_2)), (3, .pp [.sl (List.map G.api_Txn.av x_0.H.Txns), i64 x_0.Level, .sl (List.map G.api_Choice.av x_0.L), .sl (List.map G.refute_Node.av x_0.Tree)] 0), (4, .pp [i64 c_1.Key, i64 c_1.A, i64 c_1.B] 0), (17, .sl (List.map G.refute_Node.av all56)), (21, .sl (List.map G.api_Choice.av forth69)), (22, .sl (List.map G.api_Choice.av back75))]) (H' := .empty) ⟨⟨.sl (List.map G.refute_Node.av other_2), rfl, .sm⟩, .k, .k, ⟨.sl (List.map G.refute_Node.av all56), rfl, .sm⟩, ⟨.sl (List.map G.api_Choice.av forth69), rfl, .sm⟩, ⟨_, rfl, .lendAll rfl rfl (by simp)⟩, trivial⟩) ?_)
        refine awp_seqK fun K29 hK29 => awp_reg rfl <| AR.op rfl (aop_field_pp rfl rfl fd28_0 (by decide)) <| AR.op (r := G.api_Hist.av x_0.H) rfl (aop_load_pp rfl rfl sz24 rfl) <| AR.op (r := G.api_Choice.av c_1) rfl (aop_load_pp rfl rfl sz42 rfl) <| AR.keep [2, 3, 17, 21, 22, 113, 114] rfl <| AR.op (r := .clip (List.map G.api_Choice.av ([c_1] : List G.api_Choice))) rfl (aop_buildSlice rfl (xo := [.tmp 114]) rfl rfl rfl (by simp) (by simp) el25 ze25 (by decide)) ?_
        obtain ⟨r77, hr77, h⟩ := Sh.bind_some' h
        refine AR.op (r := bl r77) rfl (aop_callN rfl (ys := [G.api_Hist.av x_0.H, .clip (List.map G.api_Choice.av ([c_1] : List G.api_Choice))]) (xs := [G.api_Hist.av x_0.H, .sl (List.map G.api_Choice.av ([c_1] : List G.api_Choice))]) rfl (Weak.e (fr' := argsFr 0 [G.api_Hist.av x_0.H, .sl (List.map G.api_Choice.av ([c_1] : List G.api_Choice))]) (H' := .empty) ⟨⟨G.api_Hist.av x_0.H, rfl, .sm⟩, ⟨.clip (List.map G.api_Choice.av ([c_1] : List G.api_Choice)), rfl, .wide _ (by simp)⟩, trivial⟩) rfl (by simp) (inquestref18_Right_ok hT hr77)) <| AR.op rfl (aop_move (.inr rfl) rfl) <| AR.nil <| hK29 _ (AWP.weak (Weak.kt [2, 3, 17, 21, 22, 23] rfl) ?_)
        refine awp_seqJ (fun (p : Bool) => (⟨[(3, .pp [.sl (List.map G.api_Txn.av x_0.H.Txns), i64 x_0.Level, .sl (List.map G.api_Choice.av x_0.L), .sl (List.map G.refute_Node.av x_0.Tree)] 0), (17, .sl (List.map G.refute_Node.av all56)), (23, bl r77), (24, bl p)], .empty⟩ : St)) (fun (p : Bool) => G.inquestlaw24_RefuteJoins_j4 x_0 all56 r77 p = some r) ?_ ?_
        ·rintro both81 h
         replace h : G.inquestlaw24_RefuteJoins_j4 x_0 all56 r77 both81 = some r := h
         unfold G.inquestlaw24_RefuteJoins_j4 at h
         refine awp_seqK fun K30 hK30 => awp_reg rfl <| AR.op rfl (aop_field_pp rfl rfl fd28_0 (by decide)) <| AR.op (r := G.api_Hist.av x_0.H) rfl (aop_load_pp rfl rfl sz24 rfl) <| AR.op rfl (aop_field_pp rfl rfl fd28_1 (by decide)) <| AR.keep [3, 17, 23, 24, 135, 136] rfl <| AR.op (r := i64 x_0.Level) rfl (aop_load_pp rfl rfl sz3 rfl) <| AR.op rfl (aop_field_pp rfl rfl fd28_2 (by decide)) ?_
         refine AR.op (r := .sl (List.map G.api_Choice.av x_0.L)) rfl (aop_load_pp rfl rfl sz25 rfl) <| AR.keep [17, 23, 24, 135, 137, 139] rfl <| AR.op rfl (aop_move (.inl rfl) rfl) ?_
         obtain ⟨r84, hr84, h⟩ := Sh.bind_some' h
         refine AR.op (r := bl r84) rfl (aop_call1 rfl rfl (by simp) (refute_Check_ok hT hr84)) <| AR.op rfl (aop_move (.inl rfl) rfl) <| AR.keep [24, 141, 142] rfl <| AR.op rfl (aop_move (.inl rfl) rfl) ?_
         rcases Bool.eq_false_or_eq_true (r77) with hb85 | hb85
         ·rw [hb85]
          replace h := Sh.if_t h hb85
          refine AR.op rfl (aop_move (.inl rfl) rfl) <| AR.op rfl (aop_pick rfl rfl rfl) <| AR.keep [141, 145] rfl <| AR.op (r := bl (r84 == both81)) rfl (aop_eqb rfl rfl rfl Try.underlying4) <| AR.op rfl (aop_move (.inr rfl) rfl) <| AR.nil <| hK30 _ (AWP.weak (Weak.kt [6] rfl) ?_)
          refine awp_ret ?_
          obtain rfl := Option.some.inj h
          refine ⟨.inr rfl, bl (r84 == both81), rfl, ?_⟩
          exact Weak.e ⟨.k, trivial⟩
         ·rw [hb85]
          replace h := Sh.if_f h hb85
          refine AR.skip rfl <| AR.op rfl (aop_pick rfl rfl rfl) <| AR.keep [141, 145] rfl <| AR.op (r := bl (r84 == false)) rfl (aop_eqb rfl rfl rfl Try.underlying4) <| AR.op rfl (aop_move (.inr rfl) rfl) <| AR.nil <| hK30 _ (AWP.weak (Weak.kt [6] rfl) ?_)
          refine awp_ret ?_
          obtain rfl := Option.some.inj h
          refine ⟨.inr rfl, bl (r84 == false), rfl, ?_⟩
          exact Weak.e ⟨.k, trivial⟩
        ·intro K31 hK31
         refine awp_reg rfl <| AR.op rfl (aop_field_pp rfl rfl fd28_0 (by decide)) <| AR.op (r := G.api_Hist.av x_0.H) rfl (aop_load_pp rfl rfl sz24 rfl) <| AR.op rfl (aop_field_pp rfl rfl fd28_1 (by decide)) <| AR.keep [2, 3, 17, 21, 22, 23, 118, 119] rfl <| AR.op (r := i64 x_0.Level) rfl (aop_load_pp rfl rfl sz3 rfl) <| AR.op rfl (aop_move (.inl rfl) rfl) <| AR.op rfl (aop_field_pp rfl rfl fd28_3 (by decide)) ?_
         refine AR.keep [2, 3, 17, 22, 23, 118, 120, 121, 122] rfl <| AR.op (r := .sl (List.map G.refute_Node.av x_0.Tree)) rfl (aop_load_pp rfl rfl sz26 rfl) ?_
         obtain ⟨r86, hr86, h⟩ := Sh.bind_some' h
         refine AR.op (r := bl r86) rfl (aop_call1 rfl rfl (by simp) (refute_Check_ok hT hr86)) <| AR.op rfl (aop_move (.inl rfl) rfl) <| AR.keep [2, 3, 17, 22, 23, 125] rfl ?_
         rcases Bool.eq_false_or_eq_true (r86) with hb87 | hb87
         ·rw [hb87]
          replace h := Sh.if_t h hb87
          refine AR.op rfl (aop_field_pp rfl rfl fd28_0 (by decide)) <| AR.op (r := G.api_Hist.av x_0.H) rfl (aop_load_pp rfl rfl sz24 rfl) <| AR.op rfl (aop_field_pp rfl rfl fd28_1 (by decide)) <| AR.keep [2, 3, 17, 22, 23, 125, 127, 128] rfl <| AR.op (r := i64 x_0.Level) rfl (aop_load_pp rfl rfl sz3 rfl) <| AR.op rfl (aop_move (.inl rfl) rfl) <| AR.op rfl (aop_move (.inl rfl) rfl) <| AR.keep [3, 17, 23, 125, 127, 129, 130, 131] rfl ?_
          obtain ⟨r88, hr88, h⟩ := Sh.bind_some' h
          refine AR.op (r := bl r88) rfl (aop_call1 rfl rfl (by simp) (refute_Check_ok hT hr88)) <| AR.op rfl (aop_pick rfl rfl rfl) <| AR.op rfl (aop_move (.inr rfl) rfl) <| AR.nil ?_
          exact hK31 r88 _ h (Weak.kt [3, 17, 23, 24] rfl)
         ·rw [hb87]
          replace h := Sh.if_f h hb87
          refine AR.skip rfl <| AR.skip rfl <| AR.skip rfl <| AR.keep [2, 3, 17, 22, 23, 125, 127, 128] rfl <| AR.skip rfl <| AR.skip rfl <| AR.skip rfl <| AR.keep [3, 17, 23, 125, 127, 129, 130, 131] rfl ?_
          refine AR.skip rfl <| AR.op rfl (aop_pick rfl rfl rfl) <| AR.op rfl (aop_move (.inr rfl) rfl) <| AR.nil ?_
          exact hK31 false _ h (Weak.kt [3, 17, 23, 24] rfl)
      ·intro K32 hK32
       refine awp_reg rfl <| AR.op rfl (aop_move (.inl rfl) rfl) <| AR.op (r := bl (!r58.2.2)) rfl (aop_not rfl rfl) <| AR.op rfl (aop_move (.inl rfl) rfl) <| AR.keep [2, 3, 4, 11, 12, 14, 15, 17, 18, 19, 80] rfl ?_
       rcases Bool.eq_false_or_eq_true (!r58.2.2) with hb89 | hb89
       ·rw [hb89]
        replace h := Sh.if_t h hb89
        refine AR.skip rfl <| AR.skip rfl <| AR.skip rfl <| AR.keep [2, 3, 4, 12, 15, 17, 19, 80, 81, 82, 83] rfl <| AR.skip rfl <| AR.skip rfl <| AR.op rfl (aop_pick rfl rfl rfl) <| AR.keep [2, 3, 4, 12, 15, 17, 19, 86] rfl ?_
        refine AR.op rfl (aop_move (.inl rfl) rfl) <| AR.skip rfl <| AR.skip rfl <| AR.keep [2, 3, 4, 15, 17, 87, 88, 89] rfl <| AR.skip rfl <| AR.skip rfl <| AR.skip rfl <| AR.keep [2, 3, 4, 17, 87, 88, 92] rfl ?_
        refine AR.skip rfl <| AR.op rfl (aop_pick rfl rfl rfl) <| AR.nil ?_
        exact hK32 true _ h (Weak.kt [2, 3, 4, 17, 94] rfl)
       ·rw [hb89]
        replace h := Sh.if_f h hb89
        refine AR.op rfl (aop_move (.inl rfl) rfl) <| AR.op rfl (aop_move (.inl rfl) rfl) <| AR.op rfl (aop_move (.inl rfl) rfl) <| AR.keep [2, 3, 4, 12, 15, 17, 19, 80, 81, 82, 83] rfl <| AR.op rfl (aop_add rfl rfl rfl rfl) <| AR.op (r := bl (decide (r58.1 ≠ (w64 (r43.1 + r45.1))))) rfl (aop_neq rfl rfl rfl) <| AR.op rfl (aop_pick rfl rfl rfl) <| AR.keep [2, 3, 4, 12, 15, 17, 19, 86] rfl ?_
        refine AR.op rfl (aop_move (.inl rfl) rfl) ?_
        rcases Bool.eq_false_or_eq_true (decide (r58.1 ≠ (w64 (r43.1 + r45.1)))) with hb90 | hb90
        ·rw [hb90]
         replace h := Sh.if_t h hb90
         refine AR.skip rfl <| AR.skip rfl <| AR.keep [2, 3, 4, 15, 17, 87, 88, 89] rfl <| AR.skip rfl <| AR.skip rfl <| AR.skip rfl <| AR.keep [2, 3, 4, 17, 87, 88, 92] rfl <| AR.skip rfl ?_
         refine AR.op rfl (aop_pick rfl rfl rfl) <| AR.nil ?_
         exact hK32 true _ h (Weak.kt [2, 3, 4, 17, 94] rfl)
        ·rw [hb90]
         replace h := Sh.if_f h hb90
         refine AR.op rfl (aop_move (.inl rfl) rfl) <| AR.op rfl (aop_move (.inl rfl) rfl) <| AR.keep [2, 3, 4, 15, 17, 87, 88, 89] rfl <| AR.op rfl (aop_move (.inl rfl) rfl) <| AR.op (r := i64 (Sh.max r43.2.1 r45.2.1)) rfl (aop_max2 rfl rfl rfl) <| AR.op rfl (aop_add rfl rfl rfl rfl) <| AR.keep [2, 3, 4, 17, 87, 88, 92] rfl <| AR.op (r := bl (decide (r58.2.1 ≠ (w64 (1 + (Sh.max r43.2.1 r45.2.1)))))) rfl (aop_neq rfl rfl rfl) ?_
         refine AR.op rfl (aop_pick rfl rfl rfl) <| AR.nil ?_
         exact hK32 (decide (r58.2.1 ≠ (w64 (1 + (Sh.max r43.2.1 r45.2.1))))) _ h (Weak.kt [2, 3, 4, 17, 94] rfl)
    ·intro K33 hK33
     refine awp_reg rfl <| AR.op rfl (aop_move (.inl rfl) rfl) <| AR.op (r := bl (!r43.2.2)) rfl (aop_not rfl rfl) <| AR.op rfl (aop_move (.inl rfl) rfl) <| AR.keep [2, 3, 4, 11, 12, 14, 15, 16, 56] rfl ?_
     rcases Bool.eq_false_or_eq_true (!r43.2.2) with hb91 | hb91
     ·rw [hb91]
      replace h := Sh.if_t h hb91
      refine AR.skip rfl <| AR.skip rfl <| AR.op rfl (aop_pick rfl rfl rfl) <| AR.nil ?_
      exact hK33 true _ h (Weak.kt [2, 3, 4, 11, 12, 14, 15, 59] rfl)
     ·rw [hb91]
      replace h := Sh.if_f h hb91
      refine AR.op rfl (aop_move (.inl rfl) rfl) <| AR.op (r := bl (!r45.2.2)) rfl (aop_not rfl rfl) <| AR.op rfl (aop_pick rfl rfl rfl) <| AR.nil ?_
      exact hK33 (!r45.2.2) _ h (Weak.kt [2, 3, 4, 11, 12, 14, 15, 59] rfl)
  ·intro K34 hK34
   refine awp_reg rfl <| AR.op rfl (aop_move (.inl rfl) rfl) <| AR.op (r := bl (!r34)) rfl (aop_not rfl rfl) <| AR.op rfl (aop_move (.inl rfl) rfl) <| AR.keep [2, 3, 4, 10, 37] rfl ?_
   rcases Bool.eq_false_or_eq_true (!r34) with hb92 | hb92
   ·rw [hb92]
    replace h := Sh.if_t h hb92
    refine AR.skip rfl <| AR.skip rfl <| AR.op rfl (aop_pick rfl rfl rfl) <| AR.nil ?_
    exact hK34 true _ h (Weak.kt [2, 3, 4, 40] rfl)
   ·rw [hb92]
    replace h := Sh.if_f h hb92
    refine AR.op rfl (aop_move (.inl rfl) rfl) <| AR.op (r := bl (!r36)) rfl (aop_not rfl rfl) <| AR.op rfl (aop_pick rfl rfl rfl) <| AR.nil ?_
    exact hK34 (!r36) _ h (Weak.kt [2, 3, 4, 40] rfl)
theorem inquestlaw24_RefuteJoins_ok {W0 : World} (hT : Tab W0) {x_0 : G.inquestlaw24_Case} {c_1 : G.api_Choice} {other_2 : List G.refute_Node} {r : Bool} (h : G.inquestlaw24_RefuteJoins x_0 c_1 other_2 = some r) : Fun1 Try.prog W0 6 [G.inquestlaw24_Case.av x_0, G.api_Choice.av c_1, .sl (List.map G.refute_Node.av other_2)] (bl r) := Fun1.two (inquestlaw24_RefuteJoins_ok0 hT h) (by simp)

end Wk
