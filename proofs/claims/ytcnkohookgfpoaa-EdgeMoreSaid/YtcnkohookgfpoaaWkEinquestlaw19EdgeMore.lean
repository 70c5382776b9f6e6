/- That a statement does what its plain function says. -/
import Derived.Test.YtcnkohookgfpoaaWkEinquestlaw19
open Go Go.Av Go.Proofs
set_option linter.unusedVariables false
namespace Wk
set_option maxHeartbeats 8000000 in
set_option maxRecDepth 20000 in
theorem inquestlaw19_EdgeMore_ok0 {W0 : World} (hT : Tab W0) {a_0 : G.inquestlaw19_At} {c_1 : G.api_Choice} {r : Bool} (h : G.inquestlaw19_EdgeMore a_0 c_1 = some r) : Fun2 Try.prog W0 4 [G.inquestlaw19_At.av a_0, G.api_Choice.av c_1] (bl r) .empty := by
  refine fun2_of_awp Try.func4 rfl (by kernel_rfl) Try.ntmps4 (by simp) ?_
  unfold G.inquestlaw19_EdgeMore at h
  show AWP _ _ _ _ ⟨[(0, G.inquestlaw19_At.av a_0), (1, G.api_Choice.av c_1)], .empty⟩ _
  refine awp_seqK fun K1 hK1 => ?_
  refine awp_reg rfl ?_
  refine AR.op (r := .ref 0 0 0) rfl (aop_box 6 [G.inquestlaw19_At.av a_0] rfl rfl rfl (.inl ⟨rfl, rfl⟩)) ?_
  refine AR.op (r := .ref 1 0 0) rfl (aop_box 3 [G.api_Choice.av c_1] rfl rfl rfl (.inl ⟨rfl, rfl⟩)) ?_
  refine AR.op (r := bl false) rfl (aop_move (.inr rfl) rfl) ?_
  refine AR.nil ?_
  refine hK1 _ (AWP.weak (Weak.re (fr' := [(2, .pp [.sl (List.map G.api_Txn.av a_0.H.Txns), i64 a_0.Level, .sl (List.map G.api_Choice.av a_0.L), i64 a_0.X, i64 a_0.Y, .sl (List.map i64 a_0.Row)] 0), (3, .pp [i64 c_1.Key, i64 c_1.A, i64 c_1.B] 0)]) (H' := .empty) [] [] rfl rfl rfl (trivial) ⟨⟨_, rfl, .frzA rfl rfl rfl rfl (by simp)⟩, ⟨_, rfl, .frzA rfl rfl rfl rfl (by simp)⟩, trivial⟩) ?_)
  clear hK1 K1
  refine awp_seqK fun K2 hK2 => ?_
  refine awp_reg rfl ?_
  obtain ⟨r24, hr24, h⟩ := Sh.bind_some' h
  refine AR.op (r := bl r24) rfl (aop_call1 rfl rfl (by simp) (inquestlaw19_awake_ok hT hr24)) ?_
  refine AR.op (r := bl r24) rfl (aop_move (.inr rfl) rfl) ?_
  refine AR.nil ?_
  refine hK2 _ (AWP.weak (Weak.kp (fr' := [(2, .pp [.sl (List.map G.api_Txn.av a_0.H.Txns), i64 a_0.Level, .sl (List.map G.api_Choice.av a_0.L), i64 a_0.X, i64 a_0.Y, .sl (List.map i64 a_0.Row)] 0), (3, .pp [i64 c_1.Key, i64 c_1.A, i64 c_1.B] 0), (5, bl r24)]) ⟨rfl, rfl, rfl, trivial⟩) ?_)
  clear hK2 K2
  refine awp_seqK fun K3 hK3 => ?_
  refine awp_seqK fun K4 hK4 => ?_
  refine awp_reg rfl ?_
  refine AR.op (r := bl r24) rfl (aop_move (.inl rfl) rfl) ?_
  refine AR.op (r := bl (!r24)) rfl (aop_not rfl rfl) ?_
  refine AR.nil ?_
  refine hK4 _ (AWP.weak (Weak.kp (fr' := [(2, .pp [.sl (List.map G.api_Txn.av a_0.H.Txns), i64 a_0.Level, .sl (List.map G.api_Choice.av a_0.L), i64 a_0.X, i64 a_0.Y, .sl (List.map i64 a_0.Row)] 0), (3, .pp [i64 c_1.Key, i64 c_1.A, i64 c_1.B] 0), (14, bl (!r24))]) ⟨rfl, rfl, rfl, trivial⟩) ?_)
  clear hK4 K4
  refine awp_cond rfl (fun hb25 => ?_) (fun hb25 => ?_)
  · replace h := Sh.if_t h hb25
    refine awp_seqK fun K5 hK5 => ?_
    refine awp_reg rfl ?_
    refine AR.op (r := bl false) rfl (aop_move (.inr rfl) rfl) ?_
    refine AR.nil ?_
    refine hK5 _ (AWP.weak (Weak.kp (fr' := [(4, bl false)]) ⟨rfl, trivial⟩) ?_)
    clear hK5 K5
    refine awp_ret ?_
    obtain rfl := Option.some.inj h
    refine ⟨.inr rfl, bl false, rfl, ?_⟩
    exact Weak.re [] [] rfl rfl rfl (trivial) ⟨⟨_, rfl, .same _ (by simp)⟩, trivial⟩
  · replace h := Sh.if_f h hb25
    refine awp_skip ?_
    refine hK3 _ (AWP.weak (Weak.kp (fr' := [(2, .pp [.sl (List.map G.api_Txn.av a_0.H.Txns), i64 a_0.Level, .sl (List.map G.api_Choice.av a_0.L), i64 a_0.X, i64 a_0.Y, .sl (List.map i64 a_0.Row)] 0), (3, .pp [i64 c_1.Key, i64 c_1.A, i64 c_1.B] 0)]) ⟨rfl, rfl, trivial⟩) ?_)
    clear hK3 K3
    refine awp_seqK fun K6 hK6 => ?_
    refine awp_reg rfl ?_
    refine AR.op rfl (aop_field_pp rfl rfl fd28_0 (by decide)) ?_
    refine AR.op (r := G.api_Hist.av a_0.H) rfl (aop_load_pp rfl rfl sz24 rfl) ?_
    obtain ⟨r27, hr27, h⟩ := Sh.bind_some' h
    refine AR.op (r := bl r27) rfl (aop_call1 rfl rfl (by simp) (inquestref08_Few_ok hT hr27)) ?_
    refine AR.drop (frx := [(2, _), (3, _), (17, _)]) ⟨rfl, rfl, rfl, trivial⟩ ?_
    refine AR.op (r := bl r27) rfl (aop_move (.inr rfl) rfl) ?_
    refine AR.nil ?_
    refine hK6 _ (AWP.weak (Weak.kp (fr' := [(2, .pp [.sl (List.map G.api_Txn.av a_0.H.Txns), i64 a_0.Level, .sl (List.map G.api_Choice.av a_0.L), i64 a_0.X, i64 a_0.Y, .sl (List.map i64 a_0.Row)] 0), (3, .pp [i64 c_1.Key, i64 c_1.A, i64 c_1.B] 0), (6, bl r27)]) ⟨rfl, rfl, rfl, trivial⟩) ?_)
    clear hK6 K6
    refine awp_seqK fun K7 hK7 => ?_
    refine awp_seqJ (fun (p : Bool) => (⟨[(2, .pp [.sl (List.map G.api_Txn.av a_0.H.Txns), i64 a_0.Level, .sl (List.map G.api_Choice.av a_0.L), i64 a_0.X, i64 a_0.Y, .sl (List.map i64 a_0.Row)] 0), (3, .pp [i64 c_1.Key, i64 c_1.A, i64 c_1.B] 0), (31, bl p)], .empty⟩ : St)) (fun (p : Bool) => G.inquestlaw19_EdgeMore_j1 a_0 c_1 p = some r) ?_ ?_
    · rintro v33 h
      replace h : G.inquestlaw19_EdgeMore_j1 a_0 c_1 v33 = some r := h
      unfold G.inquestlaw19_EdgeMore_j1 at h
      show AWP _ _ _ _ ⟨[(2, .pp [.sl (List.map G.api_Txn.av a_0.H.Txns), i64 a_0.Level, .sl (List.map G.api_Choice.av a_0.L), i64 a_0.X, i64 a_0.Y, .sl (List.map i64 a_0.Row)] 0), (3, .pp [i64 c_1.Key, i64 c_1.A, i64 c_1.B] 0), (31, bl v33)], .empty⟩ _
      refine awp_cond rfl (fun hb34 => ?_) (fun hb34 => ?_)
      · replace h := Sh.if_t h hb34
        refine awp_seqK fun K8 hK8 => ?_
        refine awp_reg rfl ?_
        refine AR.op (r := bl true) rfl (aop_move (.inr rfl) rfl) ?_
        refine AR.nil ?_
        refine hK8 _ (AWP.weak (Weak.kp (fr' := [(4, bl true)]) ⟨rfl, trivial⟩) ?_)
        clear hK8 K8
        refine awp_ret ?_
        obtain rfl := Option.some.inj h
        refine ⟨.inr rfl, bl true, rfl, ?_⟩
        exact Weak.re [] [] rfl rfl rfl (trivial) ⟨⟨_, rfl, .same _ (by simp)⟩, trivial⟩
      · replace h := Sh.if_f h hb34
        refine awp_skip ?_
        refine hK7 _ (AWP.weak (Weak.kp (fr' := [(2, .pp [.sl (List.map G.api_Txn.av a_0.H.Txns), i64 a_0.Level, .sl (List.map G.api_Choice.av a_0.L), i64 a_0.X, i64 a_0.Y, .sl (List.map i64 a_0.Row)] 0), (3, .pp [i64 c_1.Key, i64 c_1.A, i64 c_1.B] 0)]) ⟨rfl, rfl, trivial⟩) ?_)
        clear hK7 K7
        refine awp_seqK fun K9 hK9 => ?_
        refine awp_reg rfl ?_
        refine AR.op (r := nilS) rfl (aop_move (.inr rfl) rfl) ?_
        refine AR.nil ?_
        refine hK9 _ ?_
        clear hK9 K9
        refine awp_seqK fun K10 hK10 => ?_
        refine awp_reg rfl ?_
        refine AR.op (r := nilS) rfl (aop_move (.inl rfl) rfl) ?_
        refine AR.op rfl (aop_field_pp rfl rfl fd28_2 (by decide)) ?_
        refine AR.op (r := .sl (List.map G.api_Choice.av a_0.L)) rfl (aop_load_pp rfl rfl sz25 rfl) ?_
        refine AR.drop (frx := [(2, _), (3, _), (32, _), (34, _)]) ⟨rfl, rfl, rfl, rfl, trivial⟩ ?_
        obtain ⟨more36, hmore36, h⟩ := Sh.bind_some' h
        refine AR.op (r := .view 0 0 (List.map G.api_Choice.av more36).length) rfl (t_app_nil G.api_Choice.av a_0.L more36 hmore36 et25 (fun _ => rfl) rfl rfl rfl rfl rfl) ?_
        refine AR.op (r := .view 0 0 (List.map G.api_Choice.av more36).length) rfl (aop_move (.inr rfl) rfl) ?_
        refine AR.nil ?_
        refine hK10 _ (AWP.weak (Weak.re (fr' := [(2, .pp [.sl (List.map G.api_Txn.av a_0.H.Txns), i64 a_0.Level, .sl (List.map G.api_Choice.av a_0.L), i64 a_0.X, i64 a_0.Y, .sl (List.map i64 a_0.Row)] 0), (3, .pp [i64 c_1.Key, i64 c_1.A, i64 c_1.B] 0), (7, .view 0 0 (List.map G.api_Choice.av more36).length)]) (H' := ⟨1, [(0, (3, List.map G.api_Choice.av more36))], []⟩) [(0, 0)] [] rfl rfl rfl (.cons rfl rfl (.same (by simp)) (of_decide_eq_true rfl) (trivial)) ⟨⟨_, rfl, .same _ (by simp)⟩, ⟨_, rfl, .same _ (by simp)⟩, ⟨_, rfl, .view rfl⟩, trivial⟩) ?_)
        clear hK10 K10
        refine awp_seqK fun K11 hK11 => ?_
        refine awp_reg rfl ?_
        refine AR.op (r := .view 0 0 (List.map G.api_Choice.av more36).length) rfl (aop_move (.inl rfl) rfl) ?_
        refine AR.op (r := G.api_Choice.av c_1) rfl (aop_load_pp rfl rfl sz35 rfl) ?_
        refine AR.op (r := .clip (List.map G.api_Choice.av ([c_1] : List G.api_Choice))) rfl (aop_buildSlice rfl (xo := [.tmp 37]) rfl rfl rfl (by simp) (by simp) el25 ze25 (by decide)) ?_
        refine AR.drop (frx := [(2, _), (3, _), (36, _), (38, _)]) ⟨rfl, rfl, rfl, rfl, trivial⟩ ?_
        obtain ⟨more38, hmore38, h⟩ := Sh.bind_some' h
        refine AR.op (r := .view 1 0 (List.map G.api_Choice.av more38).length) rfl (t_app_view G.api_Choice.av more36 ([c_1] : List G.api_Choice) more38 hmore38 rfl et25 (fun _ => rfl) rfl rfl rfl rfl rfl rfl rfl) ?_
        refine AR.op (r := .view 1 0 (List.map G.api_Choice.av more38).length) rfl (aop_move (.inr rfl) rfl) ?_
        refine AR.nil ?_
        refine hK11 _ (AWP.weak (Weak.re (fr' := [(2, .pp [.sl (List.map G.api_Txn.av a_0.H.Txns), i64 a_0.Level, .sl (List.map G.api_Choice.av a_0.L), i64 a_0.X, i64 a_0.Y, .sl (List.map i64 a_0.Row)] 0), (3, .pp [i64 c_1.Key, i64 c_1.A, i64 c_1.B] 0), (7, .sl (List.map G.api_Choice.av more38))]) (H' := .empty) [] [] rfl rfl rfl (trivial) ⟨⟨_, rfl, .same _ (by simp)⟩, ⟨_, rfl, .same _ (by simp)⟩, ⟨_, rfl, .lendAll rfl rfl (by simp)⟩, trivial⟩) ?_)
        clear hK11 K11
        refine awp_seqK fun K12 hK12 => ?_
        refine awp_reg rfl ?_
        refine AR.op rfl (aop_field_pp rfl rfl fd28_0 (by decide)) ?_
        refine AR.op (r := G.api_Hist.av a_0.H) rfl (aop_load_pp rfl rfl sz24 rfl) ?_
        refine AR.op rfl (aop_field_pp rfl rfl fd28_1 (by decide)) ?_
        refine AR.drop (frx := [(2, _), (3, _), (7, _), (41, _), (42, _)]) ⟨rfl, rfl, rfl, rfl, rfl, trivial⟩ ?_
        refine AR.op (r := i64 a_0.Level) rfl (aop_load_pp rfl rfl sz3 rfl) ?_
        refine AR.op rfl (aop_field_pp rfl rfl fd28_2 (by decide)) ?_
        refine AR.op (r := .sl (List.map G.api_Choice.av a_0.L)) rfl (aop_load_pp rfl rfl sz25 rfl) ?_
        refine AR.drop (frx := [(2, _), (3, _), (7, _), (41, _), (43, _), (45, _)]) ⟨rfl, rfl, rfl, rfl, rfl, rfl, trivial⟩ ?_
        refine AR.op rfl (aop_field_pp rfl rfl fd28_3 (by decide)) ?_
        refine AR.op (r := i64 a_0.X) rfl (aop_load_pp rfl rfl sz3 rfl) ?_
        refine AR.op rfl (aop_field_pp rfl rfl fd28_4 (by decide)) ?_
        refine AR.drop (frx := [(2, _), (3, _), (7, _), (41, _), (43, _), (45, _), (47, _), (48, _)]) ⟨rfl, rfl, rfl, rfl, rfl, rfl, rfl, rfl, trivial⟩ ?_
        refine AR.op (r := i64 a_0.Y) rfl (aop_load_pp rfl rfl sz3 rfl) ?_
        obtain ⟨r40, hr40, h⟩ := Sh.bind_some' h
        refine AR.op (r := bl r40) rfl (aop_call1 rfl rfl (by simp) (edge_Is_ok hT hr40)) ?_
        refine AR.op (r := bl r40) rfl (aop_move (.inr rfl) rfl) ?_
        refine AR.nil ?_
        refine hK12 _ (AWP.weak (Weak.kp (fr' := [(2, .pp [.sl (List.map G.api_Txn.av a_0.H.Txns), i64 a_0.Level, .sl (List.map G.api_Choice.av a_0.L), i64 a_0.X, i64 a_0.Y, .sl (List.map i64 a_0.Row)] 0), (3, .pp [i64 c_1.Key, i64 c_1.A, i64 c_1.B] 0), (7, .sl (List.map G.api_Choice.av more38)), (8, bl r40)]) ⟨rfl, rfl, rfl, rfl, trivial⟩) ?_)
        clear hK12 K12
        refine awp_seqK fun K13 hK13 => ?_
        refine awp_reg rfl ?_
        refine AR.op rfl (aop_field_pp rfl rfl fd28_0 (by decide)) ?_
        refine AR.op (r := G.api_Hist.av a_0.H) rfl (aop_load_pp rfl rfl sz24 rfl) ?_
        refine AR.op rfl (aop_field_pp rfl rfl fd28_1 (by decide)) ?_
        refine AR.drop (frx := [(2, _), (3, _), (7, _), (8, _), (52, _), (53, _)]) ⟨rfl, rfl, rfl, rfl, rfl, rfl, trivial⟩ ?_
        refine AR.op (r := i64 a_0.Level) rfl (aop_load_pp rfl rfl sz3 rfl) ?_
        refine AR.op (r := .sl (List.map G.api_Choice.av more38)) rfl (aop_move (.inl rfl) rfl) ?_
        refine AR.op rfl (aop_field_pp rfl rfl fd28_3 (by decide)) ?_
        refine AR.drop (frx := [(2, _), (3, _), (7, _), (8, _), (52, _), (54, _), (55, _), (56, _)]) ⟨rfl, rfl, rfl, rfl, rfl, rfl, rfl, rfl, trivial⟩ ?_
        refine AR.op (r := i64 a_0.X) rfl (aop_load_pp rfl rfl sz3 rfl) ?_
        refine AR.op rfl (aop_field_pp rfl rfl fd28_4 (by decide)) ?_
        refine AR.op (r := i64 a_0.Y) rfl (aop_load_pp rfl rfl sz3 rfl) ?_
        refine AR.drop (frx := [(2, _), (3, _), (7, _), (8, _), (52, _), (54, _), (55, _), (57, _), (59, _)]) ⟨rfl, rfl, rfl, rfl, rfl, rfl, rfl, rfl, rfl, trivial⟩ ?_
        obtain ⟨r42, hr42, h⟩ := Sh.bind_some' h
        refine AR.op (r := bl r42) rfl (aop_call1 rfl rfl (by simp) (edge_Is_ok hT hr42)) ?_
        refine AR.op (r := bl r42) rfl (aop_move (.inr rfl) rfl) ?_
        refine AR.nil ?_
        refine hK13 _ (AWP.weak (Weak.kp (fr' := [(2, .pp [.sl (List.map G.api_Txn.av a_0.H.Txns), i64 a_0.Level, .sl (List.map G.api_Choice.av a_0.L), i64 a_0.X, i64 a_0.Y, .sl (List.map i64 a_0.Row)] 0), (3, .pp [i64 c_1.Key, i64 c_1.A, i64 c_1.B] 0), (7, .sl (List.map G.api_Choice.av more38)), (8, bl r40), (9, bl r42)]) ⟨rfl, rfl, rfl, rfl, rfl, trivial⟩) ?_)
        clear hK13 K13
        refine awp_seqK fun K14 hK14 => ?_
        refine awp_reg rfl ?_
        refine AR.op rfl (aop_field_pp rfl rfl fd28_0 (by decide)) ?_
        refine AR.op (r := G.api_Hist.av a_0.H) rfl (aop_load_pp rfl rfl sz24 rfl) ?_
        refine AR.op rfl (aop_field_pp rfl rfl fd28_1 (by decide)) ?_
        refine AR.drop (frx := [(2, _), (3, _), (7, _), (8, _), (9, _), (62, _), (63, _)]) ⟨rfl, rfl, rfl, rfl, rfl, rfl, rfl, trivial⟩ ?_
        refine AR.op (r := i64 a_0.Level) rfl (aop_load_pp rfl rfl sz3 rfl) ?_
        refine AR.op rfl (aop_field_pp rfl rfl fd28_2 (by decide)) ?_
        refine AR.op (r := .sl (List.map G.api_Choice.av a_0.L)) rfl (aop_load_pp rfl rfl sz25 rfl) ?_
        refine AR.drop (frx := [(2, _), (3, _), (7, _), (8, _), (9, _), (62, _), (64, _), (66, _)]) ⟨rfl, rfl, rfl, rfl, rfl, rfl, rfl, rfl, trivial⟩ ?_
        refine AR.op rfl (aop_field_pp rfl rfl fd28_5 (by decide)) ?_
        refine AR.op (r := .sl (List.map i64 a_0.Row)) rfl (aop_load_pp rfl rfl sz26 rfl) ?_
        obtain ⟨r44, hr44, h⟩ := Sh.bind_some' h
        refine AR.op (r := bl r44) rfl (aop_call1 rfl rfl (by simp) (edge_Cycle_ok hT hr44)) ?_
        refine AR.drop (frx := [(2, _), (3, _), (7, _), (8, _), (9, _), (69, _)]) ⟨rfl, rfl, rfl, rfl, rfl, rfl, trivial⟩ ?_
        refine AR.op (r := bl r44) rfl (aop_move (.inr rfl) rfl) ?_
        refine AR.nil ?_
        refine hK14 _ (AWP.weak (Weak.kp (fr' := [(2, .pp [.sl (List.map G.api_Txn.av a_0.H.Txns), i64 a_0.Level, .sl (List.map G.api_Choice.av a_0.L), i64 a_0.X, i64 a_0.Y, .sl (List.map i64 a_0.Row)] 0), (3, .pp [i64 c_1.Key, i64 c_1.A, i64 c_1.B] 0), (7, .sl (List.map G.api_Choice.av more38)), (8, bl r40), (9, bl r42), (10, bl r44)]) ⟨rfl, rfl, rfl, rfl, rfl, rfl, trivial⟩) ?_)
        clear hK14 K14
        refine awp_seqK fun K15 hK15 => ?_
        refine awp_reg rfl ?_
        refine AR.op rfl (aop_field_pp rfl rfl fd28_0 (by decide)) ?_
        refine AR.op (r := G.api_Hist.av a_0.H) rfl (aop_load_pp rfl rfl sz24 rfl) ?_
        refine AR.op rfl (aop_field_pp rfl rfl fd28_1 (by decide)) ?_
        refine AR.drop (frx := [(2, _), (3, _), (7, _), (8, _), (9, _), (10, _), (71, _), (72, _)]) ⟨rfl, rfl, rfl, rfl, rfl, rfl, rfl, rfl, trivial⟩ ?_
        refine AR.op (r := i64 a_0.Level) rfl (aop_load_pp rfl rfl sz3 rfl) ?_
        refine AR.op (r := .sl (List.map G.api_Choice.av more38)) rfl (aop_move (.inl rfl) rfl) ?_
        refine AR.op rfl (aop_field_pp rfl rfl fd28_5 (by decide)) ?_
        refine AR.drop (frx := [(2, _), (3, _), (7, _), (8, _), (9, _), (10, _), (71, _), (73, _), (74, _), (75, _)]) ⟨rfl, rfl, rfl, rfl, rfl, rfl, rfl, rfl, rfl, rfl, trivial⟩ ?_
        refine AR.op (r := .sl (List.map i64 a_0.Row)) rfl (aop_load_pp rfl rfl sz26 rfl) ?_
        obtain ⟨r46, hr46, h⟩ := Sh.bind_some' h
        refine AR.op (r := bl r46) rfl (aop_call1 rfl rfl (by simp) (edge_Cycle_ok hT hr46)) ?_
        refine AR.op (r := bl r46) rfl (aop_move (.inr rfl) rfl) ?_
        refine AR.nil ?_
        refine hK15 _ (AWP.weak (Weak.kp (fr' := [(2, .pp [.sl (List.map G.api_Txn.av a_0.H.Txns), i64 a_0.Level, .sl (List.map G.api_Choice.av a_0.L), i64 a_0.X, i64 a_0.Y, .sl (List.map i64 a_0.Row)] 0), (3, .pp [i64 c_1.Key, i64 c_1.A, i64 c_1.B] 0), (7, .sl (List.map G.api_Choice.av more38)), (8, bl r40), (9, bl r42), (10, bl r44), (11, bl r46)]) ⟨rfl, rfl, rfl, rfl, rfl, rfl, rfl, trivial⟩) ?_)
        clear hK15 K15
        refine awp_seqK fun K16 hK16 => ?_
        refine awp_seqJ (fun (p : Bool × Bool × Bool) => (⟨[(2, .pp [.sl (List.map G.api_Txn.av a_0.H.Txns), i64 a_0.Level, .sl (List.map G.api_Choice.av a_0.L), i64 a_0.X, i64 a_0.Y, .sl (List.map i64 a_0.Row)] 0), (3, .pp [i64 c_1.Key, i64 c_1.A, i64 c_1.B] 0), (7, .sl (List.map G.api_Choice.av more38)), (8, bl p.1), (9, bl r42), (10, bl p.2.1), (11, bl r46), (89, bl p.2.2)], .empty⟩ : St)) (fun (p : Bool × Bool × Bool) => G.inquestlaw19_EdgeMore_j2 a_0 c_1 more38 r42 r46 p.1 p.2.1 p.2.2 = some r) ?_ ?_
        · rintro ⟨is58, ring59, v60⟩ h
          replace h : G.inquestlaw19_EdgeMore_j2 a_0 c_1 more38 r42 r46 is58 ring59 v60 = some r := h
          unfold G.inquestlaw19_EdgeMore_j2 at h
          show AWP _ _ _ _ ⟨[(2, .pp [.sl (List.map G.api_Txn.av a_0.H.Txns), i64 a_0.Level, .sl (List.map G.api_Choice.av a_0.L), i64 a_0.X, i64 a_0.Y, .sl (List.map i64 a_0.Row)] 0), (3, .pp [i64 c_1.Key, i64 c_1.A, i64 c_1.B] 0), (7, .sl (List.map G.api_Choice.av more38)), (8, bl is58), (9, bl r42), (10, bl ring59), (11, bl r46), (89, bl v60)], .empty⟩ _
          refine awp_cond rfl (fun hb61 => ?_) (fun hb61 => ?_)
          · replace h := Sh.if_t h hb61
            refine awp_seqK fun K17 hK17 => ?_
            refine awp_reg rfl ?_
            refine AR.op (r := bl false) rfl (aop_move (.inr rfl) rfl) ?_
            refine AR.nil ?_
            refine hK17 _ (AWP.weak (Weak.kp (fr' := [(4, bl false)]) ⟨rfl, trivial⟩) ?_)
            clear hK17 K17
            refine awp_ret ?_
            obtain rfl := Option.some.inj h
            refine ⟨.inr rfl, bl false, rfl, ?_⟩
            exact Weak.re [] [] rfl rfl rfl (trivial) ⟨⟨_, rfl, .same _ (by simp)⟩, trivial⟩
          · replace h := Sh.if_f h hb61
            refine awp_skip ?_
            refine hK16 _ (AWP.weak (Weak.kp (fr' := [(2, .pp [.sl (List.map G.api_Txn.av a_0.H.Txns), i64 a_0.Level, .sl (List.map G.api_Choice.av a_0.L), i64 a_0.X, i64 a_0.Y, .sl (List.map i64 a_0.Row)] 0), (3, .pp [i64 c_1.Key, i64 c_1.A, i64 c_1.B] 0), (7, .sl (List.map G.api_Choice.av more38)), (8, bl is58), (9, bl r42), (10, bl ring59), (11, bl r46)]) ⟨rfl, rfl, rfl, rfl, rfl, rfl, rfl, trivial⟩) ?_)
            clear hK16 K16
            refine awp_seqK fun K18 hK18 => ?_
            refine awp_seqK fun K19 hK19 => ?_
            refine awp_reg rfl ?_
            refine AR.op rfl (aop_field_pp rfl rfl fd28_0 (by decide)) ?_
            refine AR.op (r := G.api_Hist.av a_0.H) rfl (aop_load_pp rfl rfl sz24 rfl) ?_
            refine AR.op (r := G.api_Choice.av c_1) rfl (aop_load_pp rfl rfl sz35 rfl) ?_
            refine AR.drop (frx := [(2, _), (3, _), (7, _), (8, _), (9, _), (10, _), (11, _), (91, _), (92, _)]) ⟨rfl, rfl, rfl, rfl, rfl, rfl, rfl, rfl, rfl, trivial⟩ ?_
            refine AR.op (r := .clip (List.map G.api_Choice.av ([c_1] : List G.api_Choice))) rfl (aop_buildSlice rfl (xo := [.tmp 92]) rfl rfl rfl (by simp) (by simp) el25 ze25 (by decide)) ?_
            obtain ⟨r65, hr65, h⟩ := Sh.bind_some' h
            refine AR.op (r := bl r65) rfl (aop_callN rfl (ys := [G.api_Hist.av a_0.H, .clip (List.map G.api_Choice.av ([c_1] : List G.api_Choice))]) (xs := [G.api_Hist.av a_0.H, .sl (List.map G.api_Choice.av ([c_1] : List G.api_Choice))]) rfl (Weak.re (fr' := argsFr 0 [G.api_Hist.av a_0.H, .sl (List.map G.api_Choice.av ([c_1] : List G.api_Choice))]) (H' := .empty) [] [] rfl rfl rfl trivial ⟨⟨G.api_Hist.av a_0.H, rfl, .same _ (by simp)⟩, ⟨.clip (List.map G.api_Choice.av ([c_1] : List G.api_Choice)), rfl, .wide _ (by simp)⟩, trivial⟩) rfl (by simp) (choice_Right_ok hT hr65)) ?_
            refine AR.nil ?_
            refine hK19 _ (AWP.weak (Weak.kp (fr' := [(2, .pp [.sl (List.map G.api_Txn.av a_0.H.Txns), i64 a_0.Level, .sl (List.map G.api_Choice.av a_0.L), i64 a_0.X, i64 a_0.Y, .sl (List.map i64 a_0.Row)] 0), (3, .pp [i64 c_1.Key, i64 c_1.A, i64 c_1.B] 0), (7, .sl (List.map G.api_Choice.av more38)), (8, bl is58), (9, bl r42), (10, bl ring59), (11, bl r46), (94, bl r65)]) ⟨rfl, rfl, rfl, rfl, rfl, rfl, rfl, rfl, trivial⟩) ?_)
            clear hK19 K19
            refine awp_cond rfl (fun hb66 => ?_) (fun hb66 => ?_)
            · replace h := Sh.if_t h hb66
              refine awp_seqK fun K20 hK20 => ?_
              refine awp_reg rfl ?_
              refine AR.op rfl (aop_field_pp rfl rfl fd28_0 (by decide)) ?_
              refine AR.op (r := G.api_Hist.av a_0.H) rfl (aop_load_pp rfl rfl sz24 rfl) ?_
              refine AR.op (r := .sl (List.map G.api_Choice.av more38)) rfl (aop_move (.inl rfl) rfl) ?_
              refine AR.drop (frx := [(3, _), (96, _), (97, _)]) ⟨rfl, rfl, rfl, trivial⟩ ?_
              refine AR.op rfl (aop_field_pp rfl rfl fd35_1 (by decide)) ?_
              refine AR.op (r := i64 c_1.A) rfl (aop_load_pp rfl rfl sz3 rfl) ?_
              refine AR.op rfl (aop_field_pp rfl rfl fd35_2 (by decide)) ?_
              refine AR.drop (frx := [(96, _), (97, _), (99, _), (100, _)]) ⟨rfl, rfl, rfl, rfl, trivial⟩ ?_
              refine AR.op (r := i64 c_1.B) rfl (aop_load_pp rfl rfl sz3 rfl) ?_
              obtain ⟨r68, hr68, h⟩ := Sh.bind_some' h
              refine AR.op (r := bl r68) rfl (aop_call1 rfl rfl (by simp) (edge_Direct_ok hT hr68)) ?_
              refine AR.op (r := bl r68) rfl (aop_move (.inr rfl) rfl) ?_
              refine AR.nil ?_
              refine hK20 _ (AWP.weak (Weak.kp (fr' := [(4, bl r68)]) ⟨rfl, trivial⟩) ?_)
              clear hK20 K20
              refine awp_ret ?_
              obtain rfl := Option.some.inj h
              refine ⟨.inr rfl, bl r68, rfl, ?_⟩
              exact Weak.re [] [] rfl rfl rfl (trivial) ⟨⟨_, rfl, .same _ (by simp)⟩, trivial⟩
            · replace h := Sh.if_f h hb66
              refine awp_skip ?_
              refine hK18 _ (AWP.weak (Weak.kp (fr' := [(8, bl is58), (9, bl r42), (10, bl ring59), (11, bl r46)]) ⟨rfl, rfl, rfl, rfl, trivial⟩) ?_)
              clear hK18 K18
              refine awp_seqK fun K21 hK21 => ?_
              refine awp_reg rfl ?_
              refine AR.op (r := bl is58) rfl (aop_move (.inl rfl) rfl) ?_
              refine AR.op (r := bl r42) rfl (aop_move (.inl rfl) rfl) ?_
              refine AR.op (r := bl (is58 == r42)) rfl (aop_eqb rfl rfl rfl Try.underlying4) ?_
              refine AR.drop (frx := [(10, _), (11, _), (105, _)]) ⟨rfl, rfl, rfl, trivial⟩ ?_
              refine AR.op (r := bl (is58 == r42)) rfl (aop_move (.inl rfl) rfl) ?_
              rcases Bool.eq_false_or_eq_true (is58 == r42) with hb70 | hb70
              · rw [hb70]
                replace h := Sh.if_t h hb70
                refine AR.op (r := bl ring59) rfl (aop_move (.inl rfl) rfl) ?_
                refine AR.op (r := bl r46) rfl (aop_move (.inl rfl) rfl) ?_
                refine AR.drop (frx := [(106, _), (107, _), (108, _)]) ⟨rfl, rfl, rfl, trivial⟩ ?_
                refine AR.op (r := bl (ring59 == r46)) rfl (aop_eqb rfl rfl rfl Try.underlying4) ?_
                refine AR.op (r := bl (ring59 == r46)) rfl (aop_pick rfl rfl rfl) ?_
                refine AR.op (r := bl (ring59 == r46)) rfl (aop_move (.inr rfl) rfl) ?_
                refine AR.nil ?_
                refine hK21 _ (AWP.weak (Weak.kp (fr' := [(4, bl (ring59 == r46))]) ⟨rfl, trivial⟩) ?_)
                clear hK21 K21
                refine awp_ret ?_
                obtain rfl := Option.some.inj h
                refine ⟨.inr rfl, bl (ring59 == r46), rfl, ?_⟩
                exact Weak.re [] [] rfl rfl rfl (trivial) ⟨⟨_, rfl, .same _ (by simp)⟩, trivial⟩
              · rw [hb70]
                replace h := Sh.if_f h hb70
                refine AR.skip rfl ?_
                refine AR.skip rfl ?_
                refine AR.drop (frx := [(106, _), (107, _), (108, _)]) ⟨rfl, rfl, rfl, trivial⟩ ?_
                refine AR.skip rfl ?_
                refine AR.op (r := bl false) rfl (aop_pick rfl rfl rfl) ?_
                refine AR.op (r := bl false) rfl (aop_move (.inr rfl) rfl) ?_
                refine AR.nil ?_
                refine hK21 _ (AWP.weak (Weak.kp (fr' := [(4, bl false)]) ⟨rfl, trivial⟩) ?_)
                clear hK21 K21
                refine awp_ret ?_
                obtain rfl := Option.some.inj h
                refine ⟨.inr rfl, bl false, rfl, ?_⟩
                exact Weak.re [] [] rfl rfl rfl (trivial) ⟨⟨_, rfl, .same _ (by simp)⟩, trivial⟩
        · intro K22 hK22
          refine awp_reg rfl ?_
          refine AR.op (r := bl r40) rfl (aop_move (.inl rfl) rfl) ?_
          refine AR.op (r := bl r40) rfl (aop_move (.inl rfl) rfl) ?_
          rcases Bool.eq_false_or_eq_true (r40) with hb71 | hb71
          · rw [hb71]
            replace h := Sh.if_t h hb71
            refine AR.op (r := bl r42) rfl (aop_move (.inl rfl) rfl) ?_
            refine AR.drop (frx := [(2, _), (3, _), (7, _), (8, _), (9, _), (10, _), (11, _), (79, _), (80, _)]) ⟨rfl, rfl, rfl, rfl, rfl, rfl, rfl, rfl, rfl, trivial⟩ ?_
            refine AR.op (r := bl (!r42)) rfl (aop_not rfl rfl) ?_
            refine AR.op (r := bl (!r42)) rfl (aop_pick rfl rfl rfl) ?_
            refine AR.op (r := bl (!r42)) rfl (aop_move (.inl rfl) rfl) ?_
            refine AR.drop (frx := [(2, _), (3, _), (7, _), (8, _), (9, _), (10, _), (11, _), (83, _)]) ⟨rfl, rfl, rfl, rfl, rfl, rfl, rfl, rfl, trivial⟩ ?_
            rcases Bool.eq_false_or_eq_true (!r42) with hb72 | hb72
            · rw [hb72]
              replace h := Sh.if_t h hb72
              refine AR.skip rfl ?_
              refine AR.skip rfl ?_
              refine AR.skip rfl ?_
              refine AR.drop (frx := [(2, _), (3, _), (7, _), (8, _), (9, _), (10, _), (11, _), (83, _), (85, _), (86, _)]) ⟨rfl, rfl, rfl, rfl, rfl, rfl, rfl, rfl, rfl, rfl, trivial⟩ ?_
              refine AR.skip rfl ?_
              refine AR.skip rfl ?_
              refine AR.op (r := bl true) rfl (aop_pick rfl rfl rfl) ?_
              refine AR.nil ?_
              exact hK22 (true, r44, true) _ h (Weak.kp (fr' := [(2, .pp [.sl (List.map G.api_Txn.av a_0.H.Txns), i64 a_0.Level, .sl (List.map G.api_Choice.av a_0.L), i64 a_0.X, i64 a_0.Y, .sl (List.map i64 a_0.Row)] 0), (3, .pp [i64 c_1.Key, i64 c_1.A, i64 c_1.B] 0), (7, .sl (List.map G.api_Choice.av more38)), (8, bl true), (9, bl r42), (10, bl r44), (11, bl r46), (89, bl true)]) ⟨rfl, rfl, rfl, rfl, rfl, rfl, rfl, rfl, trivial⟩)
            · rw [hb72]
              replace h := Sh.if_f h hb72
              refine AR.op (r := bl r44) rfl (aop_move (.inl rfl) rfl) ?_
              refine AR.op (r := bl r44) rfl (aop_move (.inl rfl) rfl) ?_
              rcases Bool.eq_false_or_eq_true (r44) with hb73 | hb73
              · rw [hb73]
                replace h := Sh.if_t h hb73
                refine AR.op (r := bl r46) rfl (aop_move (.inl rfl) rfl) ?_
                refine AR.drop (frx := [(2, _), (3, _), (7, _), (8, _), (9, _), (10, _), (11, _), (83, _), (85, _), (86, _)]) ⟨rfl, rfl, rfl, rfl, rfl, rfl, rfl, rfl, rfl, rfl, trivial⟩ ?_
                refine AR.op (r := bl (!r46)) rfl (aop_not rfl rfl) ?_
                refine AR.op (r := bl (!r46)) rfl (aop_pick rfl rfl rfl) ?_
                refine AR.op (r := bl (!r46)) rfl (aop_pick rfl rfl rfl) ?_
                refine AR.nil ?_
                exact hK22 (true, true, !r46) _ h (Weak.re (fr' := [(2, .pp [.sl (List.map G.api_Txn.av a_0.H.Txns), i64 a_0.Level, .sl (List.map G.api_Choice.av a_0.L), i64 a_0.X, i64 a_0.Y, .sl (List.map i64 a_0.Row)] 0), (3, .pp [i64 c_1.Key, i64 c_1.A, i64 c_1.B] 0), (7, .sl (List.map G.api_Choice.av more38)), (8, bl true), (9, bl r42), (10, bl true), (11, bl r46), (89, bl (!r46))]) (H' := .empty) [] [] rfl rfl rfl (trivial) ⟨⟨_, rfl, .same _ (by simp)⟩, ⟨_, rfl, .same _ (by simp)⟩, ⟨.sl (List.map G.api_Choice.av more38), rfl, .same _ (by simp)⟩, ⟨_, rfl, .same _ (by simp)⟩, ⟨_, rfl, .same _ (by simp)⟩, ⟨_, rfl, .same _ (by simp)⟩, ⟨_, rfl, .same _ (by simp)⟩, ⟨_, rfl, .same _ (by simp)⟩, trivial⟩)
              · rw [hb73]
                replace h := Sh.if_f h hb73
                refine AR.skip rfl ?_
                refine AR.drop (frx := [(2, _), (3, _), (7, _), (8, _), (9, _), (10, _), (11, _), (83, _), (85, _), (86, _)]) ⟨rfl, rfl, rfl, rfl, rfl, rfl, rfl, rfl, rfl, rfl, trivial⟩ ?_
                refine AR.skip rfl ?_
                refine AR.op (r := bl false) rfl (aop_pick rfl rfl rfl) ?_
                refine AR.op (r := bl false) rfl (aop_pick rfl rfl rfl) ?_
                refine AR.nil ?_
                exact hK22 (true, false, false) _ h (Weak.kp (fr' := [(2, .pp [.sl (List.map G.api_Txn.av a_0.H.Txns), i64 a_0.Level, .sl (List.map G.api_Choice.av a_0.L), i64 a_0.X, i64 a_0.Y, .sl (List.map i64 a_0.Row)] 0), (3, .pp [i64 c_1.Key, i64 c_1.A, i64 c_1.B] 0), (7, .sl (List.map G.api_Choice.av more38)), (8, bl true), (9, bl r42), (10, bl false), (11, bl r46), (89, bl false)]) ⟨rfl, rfl, rfl, rfl, rfl, rfl, rfl, rfl, trivial⟩)
          · rw [hb71]
            replace h := Sh.if_f h hb71
            refine AR.skip rfl ?_
            refine AR.drop (frx := [(2, _), (3, _), (7, _), (8, _), (9, _), (10, _), (11, _), (79, _), (80, _)]) ⟨rfl, rfl, rfl, rfl, rfl, rfl, rfl, rfl, rfl, trivial⟩ ?_
            refine AR.skip rfl ?_
            refine AR.op (r := bl false) rfl (aop_pick rfl rfl rfl) ?_
            refine AR.op (r := bl false) rfl (aop_move (.inl rfl) rfl) ?_
            refine AR.drop (frx := [(2, _), (3, _), (7, _), (8, _), (9, _), (10, _), (11, _), (83, _)]) ⟨rfl, rfl, rfl, rfl, rfl, rfl, rfl, rfl, trivial⟩ ?_
            refine AR.op (r := bl r44) rfl (aop_move (.inl rfl) rfl) ?_
            refine AR.op (r := bl r44) rfl (aop_move (.inl rfl) rfl) ?_
            rcases Bool.eq_false_or_eq_true (r44) with hb74 | hb74
            · rw [hb74]
              replace h := Sh.if_t h hb74
              refine AR.op (r := bl r46) rfl (aop_move (.inl rfl) rfl) ?_
              refine AR.drop (frx := [(2, _), (3, _), (7, _), (8, _), (9, _), (10, _), (11, _), (83, _), (85, _), (86, _)]) ⟨rfl, rfl, rfl, rfl, rfl, rfl, rfl, rfl, rfl, rfl, trivial⟩ ?_
              refine AR.op (r := bl (!r46)) rfl (aop_not rfl rfl) ?_
              refine AR.op (r := bl (!r46)) rfl (aop_pick rfl rfl rfl) ?_
              refine AR.op (r := bl (!r46)) rfl (aop_pick rfl rfl rfl) ?_
              refine AR.nil ?_
              exact hK22 (false, true, !r46) _ h (Weak.re (fr' := [(2, .pp [.sl (List.map G.api_Txn.av a_0.H.Txns), i64 a_0.Level, .sl (List.map G.api_Choice.av a_0.L), i64 a_0.X, i64 a_0.Y, .sl (List.map i64 a_0.Row)] 0), (3, .pp [i64 c_1.Key, i64 c_1.A, i64 c_1.B] 0), (7, .sl (List.map G.api_Choice.av more38)), (8, bl false), (9, bl r42), (10, bl true), (11, bl r46), (89, bl (!r46))]) (H' := .empty) [] [] rfl rfl rfl (trivial) ⟨⟨_, rfl, .same _ (by simp)⟩, ⟨_, rfl, .same _ (by simp)⟩, ⟨.sl (List.map G.api_Choice.av more38), rfl, .same _ (by simp)⟩, ⟨_, rfl, .same _ (by simp)⟩, ⟨_, rfl, .same _ (by simp)⟩, ⟨_, rfl, .same _ (by simp)⟩, ⟨_, rfl, .same _ (by simp)⟩, ⟨_, rfl, .same _ (by simp)⟩, trivial⟩)
            · rw [hb74]
              replace h := Sh.if_f h hb74
              refine AR.skip rfl ?_
              refine AR.drop (frx := [(2, _), (3, _), (7, _), (8, _), (9, _), (10, _), (11, _), (83, _), (85, _), (86, _)]) ⟨rfl, rfl, rfl, rfl, rfl, rfl, rfl, rfl, rfl, rfl, trivial⟩ ?_
              refine AR.skip rfl ?_
              refine AR.op (r := bl false) rfl (aop_pick rfl rfl rfl) ?_
              refine AR.op (r := bl false) rfl (aop_pick rfl rfl rfl) ?_
              refine AR.nil ?_
              exact hK22 (false, false, false) _ h (Weak.kp (fr' := [(2, .pp [.sl (List.map G.api_Txn.av a_0.H.Txns), i64 a_0.Level, .sl (List.map G.api_Choice.av a_0.L), i64 a_0.X, i64 a_0.Y, .sl (List.map i64 a_0.Row)] 0), (3, .pp [i64 c_1.Key, i64 c_1.A, i64 c_1.B] 0), (7, .sl (List.map G.api_Choice.av more38)), (8, bl false), (9, bl r42), (10, bl false), (11, bl r46), (89, bl false)]) ⟨rfl, rfl, rfl, rfl, rfl, rfl, rfl, rfl, trivial⟩)
    · intro K23 hK23
      refine awp_reg rfl ?_
      refine AR.op (r := bl r27) rfl (aop_move (.inl rfl) rfl) ?_
      refine AR.op (r := bl (!r27)) rfl (aop_not rfl rfl) ?_
      refine AR.op (r := bl (!r27)) rfl (aop_move (.inl rfl) rfl) ?_
      refine AR.drop (frx := [(2, _), (3, _), (20, _)]) ⟨rfl, rfl, rfl, trivial⟩ ?_
      rcases Bool.eq_false_or_eq_true (!r27) with hb75 | hb75
      · rw [hb75]
        replace h := Sh.if_t h hb75
        refine AR.skip rfl ?_
        refine AR.skip rfl ?_
        refine AR.skip rfl ?_
        refine AR.drop (frx := [(2, _), (3, _), (20, _), (23, _)]) ⟨rfl, rfl, rfl, rfl, trivial⟩ ?_
        refine AR.skip rfl ?_
        refine AR.op (r := bl true) rfl (aop_pick rfl rfl rfl) ?_
        refine AR.op (r := bl true) rfl (aop_move (.inl rfl) rfl) ?_
        refine AR.drop (frx := [(2, _), (3, _), (26, _)]) ⟨rfl, rfl, rfl, trivial⟩ ?_
        refine AR.skip rfl ?_
        refine AR.skip rfl ?_
        refine AR.skip rfl ?_
        refine AR.drop (frx := [(2, _), (3, _), (26, _), (29, _)]) ⟨rfl, rfl, rfl, rfl, trivial⟩ ?_
        refine AR.skip rfl ?_
        refine AR.op (r := bl true) rfl (aop_pick rfl rfl rfl) ?_
        refine AR.nil ?_
        exact hK23 true _ h (Weak.kp (fr' := [(2, .pp [.sl (List.map G.api_Txn.av a_0.H.Txns), i64 a_0.Level, .sl (List.map G.api_Choice.av a_0.L), i64 a_0.X, i64 a_0.Y, .sl (List.map i64 a_0.Row)] 0), (3, .pp [i64 c_1.Key, i64 c_1.A, i64 c_1.B] 0), (31, bl true)]) ⟨rfl, rfl, rfl, trivial⟩)
      · rw [hb75]
        replace h := Sh.if_f h hb75
        refine AR.op rfl (aop_field_pp rfl rfl fd28_2 (by decide)) ?_
        refine AR.op (r := .sl (List.map G.api_Choice.av a_0.L)) rfl (aop_load_pp rfl rfl sz25 rfl) ?_
        refine AR.op (r := i64 (Sh.len a_0.L)) rfl (t_len_sl G.api_Choice.av a_0.L rfl rfl el25) ?_
        refine AR.drop (frx := [(2, _), (3, _), (20, _), (23, _)]) ⟨rfl, rfl, rfl, rfl, trivial⟩ ?_
        refine AR.op (r := bl (decide ((60 : Int) < (Sh.len a_0.L)))) rfl (aop_gtr rfl rfl rfl) ?_
        refine AR.op (r := bl (decide ((60 : Int) < (Sh.len a_0.L)))) rfl (aop_pick rfl rfl rfl) ?_
        refine AR.op (r := bl (decide ((60 : Int) < (Sh.len a_0.L)))) rfl (aop_move (.inl rfl) rfl) ?_
        refine AR.drop (frx := [(2, _), (3, _), (26, _)]) ⟨rfl, rfl, rfl, trivial⟩ ?_
        rcases Bool.eq_false_or_eq_true (decide ((60 : Int) < (Sh.len a_0.L))) with hb76 | hb76
        · rw [hb76]
          replace h := Sh.if_t h hb76
          refine AR.skip rfl ?_
          refine AR.skip rfl ?_
          refine AR.skip rfl ?_
          refine AR.drop (frx := [(2, _), (3, _), (26, _), (29, _)]) ⟨rfl, rfl, rfl, rfl, trivial⟩ ?_
          refine AR.skip rfl ?_
          refine AR.op (r := bl true) rfl (aop_pick rfl rfl rfl) ?_
          refine AR.nil ?_
          exact hK23 true _ h (Weak.kp (fr' := [(2, .pp [.sl (List.map G.api_Txn.av a_0.H.Txns), i64 a_0.Level, .sl (List.map G.api_Choice.av a_0.L), i64 a_0.X, i64 a_0.Y, .sl (List.map i64 a_0.Row)] 0), (3, .pp [i64 c_1.Key, i64 c_1.A, i64 c_1.B] 0), (31, bl true)]) ⟨rfl, rfl, rfl, trivial⟩)
        · rw [hb76]
          replace h := Sh.if_f h hb76
          refine AR.op rfl (aop_field_pp rfl rfl fd28_5 (by decide)) ?_
          refine AR.op (r := .sl (List.map i64 a_0.Row)) rfl (aop_load_pp rfl rfl sz26 rfl) ?_
          refine AR.op (r := i64 (Sh.len a_0.Row)) rfl (t_len_sl i64 a_0.Row rfl rfl el26) ?_
          refine AR.drop (frx := [(2, _), (3, _), (26, _), (29, _)]) ⟨rfl, rfl, rfl, rfl, trivial⟩ ?_
          refine AR.op (r := bl (decide ((50 : Int) < (Sh.len a_0.Row)))) rfl (aop_gtr rfl rfl rfl) ?_
          refine AR.op (r := bl (decide ((50 : Int) < (Sh.len a_0.Row)))) rfl (aop_pick rfl rfl rfl) ?_
          refine AR.nil ?_
          exact hK23 (decide ((50 : Int) < (Sh.len a_0.Row))) _ h (Weak.re (fr' := [(2, .pp [.sl (List.map G.api_Txn.av a_0.H.Txns), i64 a_0.Level, .sl (List.map G.api_Choice.av a_0.L), i64 a_0.X, i64 a_0.Y, .sl (List.map i64 a_0.Row)] 0), (3, .pp [i64 c_1.Key, i64 c_1.A, i64 c_1.B] 0), (31, bl (decide ((50 : Int) < (Sh.len a_0.Row))))]) (H' := .empty) [] [] rfl rfl rfl (trivial) ⟨⟨_, rfl, .same _ (by simp)⟩, ⟨_, rfl, .same _ (by simp)⟩, ⟨_, rfl, .same _ (by simp)⟩, trivial⟩)
theorem inquestlaw19_EdgeMore_ok {W0 : World} (hT : Tab W0) {a_0 : G.inquestlaw19_At} {c_1 : G.api_Choice} {r : Bool} (h : G.inquestlaw19_EdgeMore a_0 c_1 = some r) : Fun1 Try.prog W0 4 [G.inquestlaw19_At.av a_0, G.api_Choice.av c_1] (bl r) := Fun1.two (inquestlaw19_EdgeMore_ok0 hT h) (by simp)

end Wk
