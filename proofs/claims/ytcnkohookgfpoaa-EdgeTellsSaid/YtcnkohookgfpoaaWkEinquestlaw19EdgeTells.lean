/- That a statement does what its plain function says. -/
import Derived.Test.YtcnkohookgfpoaaWkEinquestlaw19
open Go Go.Av Go.Proofs
set_option linter.unusedVariables false
namespace Wk
set_option maxHeartbeats 8000000 in
set_option maxRecDepth 20000 in
theorem inquestlaw19_EdgeTells_ok0 {W0 : World} (hT : Tab W0) {a_0 : G.inquestlaw19_At} {r : Bool} (h : G.inquestlaw19_EdgeTells a_0 = some r) : Fun2 Try.prog W0 3 [G.inquestlaw19_At.av a_0] (bl r) .empty := by
  refine fun2_of_awp Try.func3 rfl (by kernel_rfl) Try.ntmps3 (by simp) ?_
  unfold G.inquestlaw19_EdgeTells at h
  show AWP _ _ _ _ ⟨[(0, G.inquestlaw19_At.av a_0)], .empty⟩ _
  refine awp_seqK fun K1 hK1 => ?_
  refine awp_reg rfl ?_
  refine AR.op (r := .ref 0 0 0) rfl (aop_box 6 [G.inquestlaw19_At.av a_0] rfl rfl rfl (.inl ⟨rfl, rfl⟩)) ?_
  refine AR.op (r := bl false) rfl (aop_move (.inr rfl) rfl) ?_
  refine AR.nil ?_
  refine hK1 _ (AWP.weak (Weak.re (fr' := [(1, .pp [.sl (List.map G.api_Txn.av a_0.H.Txns), i64 a_0.Level, .sl (List.map G.api_Choice.av a_0.L), i64 a_0.X, i64 a_0.Y, .sl (List.map i64 a_0.Row)] 0)]) (H' := .empty) [] [] rfl rfl rfl (trivial) ⟨⟨_, rfl, .frzA rfl rfl rfl rfl (by simp)⟩, trivial⟩) ?_)
  clear hK1 K1
  refine awp_seqK fun K2 hK2 => ?_
  refine awp_reg rfl ?_
  obtain ⟨r16, hr16, h⟩ := Sh.bind_some' h
  refine AR.op (r := bl r16) rfl (aop_call1 rfl rfl (by simp) (inquestlaw19_awake_ok hT hr16)) ?_
  refine AR.op (r := bl r16) rfl (aop_move (.inr rfl) rfl) ?_
  refine AR.nil ?_
  refine hK2 _ (AWP.weak (Weak.kp (fr' := [(1, .pp [.sl (List.map G.api_Txn.av a_0.H.Txns), i64 a_0.Level, .sl (List.map G.api_Choice.av a_0.L), i64 a_0.X, i64 a_0.Y, .sl (List.map i64 a_0.Row)] 0), (3, bl r16)]) ⟨rfl, rfl, trivial⟩) ?_)
  clear hK2 K2
  refine awp_seqK fun K3 hK3 => ?_
  refine awp_seqK fun K4 hK4 => ?_
  refine awp_reg rfl ?_
  refine AR.op (r := bl r16) rfl (aop_move (.inl rfl) rfl) ?_
  refine AR.op (r := bl (!r16)) rfl (aop_not rfl rfl) ?_
  refine AR.nil ?_
  refine hK4 _ (AWP.weak (Weak.kp (fr' := [(1, .pp [.sl (List.map G.api_Txn.av a_0.H.Txns), i64 a_0.Level, .sl (List.map G.api_Choice.av a_0.L), i64 a_0.X, i64 a_0.Y, .sl (List.map i64 a_0.Row)] 0), (7, bl (!r16))]) ⟨rfl, rfl, trivial⟩) ?_)
  clear hK4 K4
  refine awp_cond rfl (fun hb17 => ?_) (fun hb17 => ?_)
  · replace h := Sh.if_t h hb17
    refine awp_seqK fun K5 hK5 => ?_
    refine awp_reg rfl ?_
    refine AR.op (r := bl false) rfl (aop_move (.inr rfl) rfl) ?_
    refine AR.nil ?_
    refine hK5 _ (AWP.weak (Weak.kp (fr' := [(2, bl false)]) ⟨rfl, trivial⟩) ?_)
    clear hK5 K5
    refine awp_ret ?_
    obtain rfl := Option.some.inj h
    refine ⟨.inr rfl, bl false, rfl, ?_⟩
    exact Weak.re [] [] rfl rfl rfl (trivial) ⟨⟨_, rfl, .same _ (by simp)⟩, trivial⟩
  · replace h := Sh.if_f h hb17
    refine awp_skip ?_
    refine hK3 _ (AWP.weak (Weak.kp (fr' := [(1, .pp [.sl (List.map G.api_Txn.av a_0.H.Txns), i64 a_0.Level, .sl (List.map G.api_Choice.av a_0.L), i64 a_0.X, i64 a_0.Y, .sl (List.map i64 a_0.Row)] 0)]) ⟨rfl, trivial⟩) ?_)
    clear hK3 K3
    refine awp_seqK fun K6 hK6 => ?_
    refine awp_reg rfl ?_
    refine AR.op (r := G.inquestlaw19_At.av a_0) rfl (aop_load_pp rfl rfl sz28 rfl) ?_
    obtain ⟨r19, hr19, h⟩ := Sh.bind_some' h
    refine AR.op (r := bl r19) rfl (aop_call1 rfl rfl (by simp) (inquestlaw19_few_ok hT hr19)) ?_
    refine AR.op (r := bl r19) rfl (aop_move (.inr rfl) rfl) ?_
    refine AR.nil ?_
    refine hK6 _ (AWP.weak (Weak.kp (fr' := [(1, .pp [.sl (List.map G.api_Txn.av a_0.H.Txns), i64 a_0.Level, .sl (List.map G.api_Choice.av a_0.L), i64 a_0.X, i64 a_0.Y, .sl (List.map i64 a_0.Row)] 0), (4, bl r19)]) ⟨rfl, rfl, trivial⟩) ?_)
    clear hK6 K6
    refine awp_seqK fun K7 hK7 => ?_
    refine awp_seqK fun K8 hK8 => ?_
    refine awp_reg rfl ?_
    refine AR.op (r := bl r19) rfl (aop_move (.inl rfl) rfl) ?_
    refine AR.op (r := bl (!r19)) rfl (aop_not rfl rfl) ?_
    refine AR.nil ?_
    refine hK8 _ (AWP.weak (Weak.kp (fr' := [(1, .pp [.sl (List.map G.api_Txn.av a_0.H.Txns), i64 a_0.Level, .sl (List.map G.api_Choice.av a_0.L), i64 a_0.X, i64 a_0.Y, .sl (List.map i64 a_0.Row)] 0), (11, bl (!r19))]) ⟨rfl, rfl, trivial⟩) ?_)
    clear hK8 K8
    refine awp_cond rfl (fun hb20 => ?_) (fun hb20 => ?_)
    · replace h := Sh.if_t h hb20
      refine awp_seqK fun K9 hK9 => ?_
      refine awp_reg rfl ?_
      refine AR.op (r := bl true) rfl (aop_move (.inr rfl) rfl) ?_
      refine AR.nil ?_
      refine hK9 _ (AWP.weak (Weak.kp (fr' := [(2, bl true)]) ⟨rfl, trivial⟩) ?_)
      clear hK9 K9
      refine awp_ret ?_
      obtain rfl := Option.some.inj h
      refine ⟨.inr rfl, bl true, rfl, ?_⟩
      exact Weak.re [] [] rfl rfl rfl (trivial) ⟨⟨_, rfl, .same _ (by simp)⟩, trivial⟩
    · replace h := Sh.if_f h hb20
      refine awp_skip ?_
      refine hK7 _ (AWP.weak (Weak.kp (fr' := [(1, .pp [.sl (List.map G.api_Txn.av a_0.H.Txns), i64 a_0.Level, .sl (List.map G.api_Choice.av a_0.L), i64 a_0.X, i64 a_0.Y, .sl (List.map i64 a_0.Row)] 0)]) ⟨rfl, trivial⟩) ?_)
      clear hK7 K7
      refine awp_seqK fun K10 hK10 => ?_
      refine awp_any [(true, false), (true, false), (true, false), (true, false), (true, false), (true, false), (true, false), (true, false), (true, false), (true, false), (true, false), (true, false), (true, false), (true, false), (true, false), (true, false), (true, false), (true, false), (true, false), (true, false), (true, false), (true, false), (true, false), (true, false), (true, false), (true, false), (true, false), (true, false), (true, false), (true, false), (true, false), (true, false), (true, false), (true, false), (true, false), (true, false), (true, false), (true, false), (true, false), (true, false), (true, false), (true, false), (true, false), (true, false), (true, false), (true, false), (true, false), (true, false), (true, false), (true, false), (true, false), (true, false), (true, false), (true, false), (true, false), (true, false), (true, false), (true, false), (true, false), (true, false), (true, false), (true, false), (true, false), (true, false), (true, false), (true, false), (true, false), (true, false), (true, false), (true, false), (true, false), (true, false), (true, false), (true, false), (true, false), (true, false), (true, false), (true, false), (true, false), (true, false), (true, false), (true, false), (true, false), (true, false), (true, false), (true, false), (true, false)] (by kernel_rfl) (by kernel_rfl) rfl ?_
      refine ARH.dry rfl (fun _ => aop_field_pp rfl rfl fd28_0 (by decide)) ?_
      refine ARH.dry (r := G.api_Hist.av a_0.H) rfl (fun _ => aop_load_pp rfl rfl sz24 rfl) ?_
      refine ARH.dry rfl (fun _ => aop_field_pp rfl rfl fd28_2 (by decide)) ?_
      refine ARH.drop (frx := [(1, _), (13, _), (14, _)]) ⟨rfl, rfl, rfl, trivial⟩ ?_
      refine ARH.dry (r := .sl (List.map G.api_Choice.av a_0.L)) rfl (fun _ => aop_load_pp rfl rfl sz25 rfl) ?_
      refine ARH.dry rfl (fun _ => aop_field_pp rfl rfl fd28_3 (by decide)) ?_
      refine ARH.dry (r := i64 a_0.X) rfl (fun _ => aop_load_pp rfl rfl sz3 rfl) ?_
      refine ARH.drop (frx := [(1, _), (13, _), (15, _), (17, _)]) ⟨rfl, rfl, rfl, rfl, trivial⟩ ?_
      refine ARH.dry rfl (fun _ => aop_field_pp rfl rfl fd28_4 (by decide)) ?_
      refine ARH.dry (r := i64 a_0.Y) rfl (fun _ => aop_load_pp rfl rfl sz3 rfl) ?_
      obtain ⟨r32, hr32, h⟩ := Sh.bind_some' h
      refine ARH.dry (r := bl r32) rfl (fun _ => aop_call1 rfl rfl (by simp) (edge_Direct_ok hT hr32)) ?_
      refine ARH.drop (frx := [(1, _), (20, _)]) ⟨rfl, rfl, trivial⟩ ?_
      refine ARH.dry rfl (fun _ => aop_field_pp rfl rfl fd28_0 (by decide)) ?_
      refine ARH.dry (r := G.api_Hist.av a_0.H) rfl (fun _ => aop_load_pp rfl rfl sz24 rfl) ?_
      refine ARH.dry rfl (fun _ => aop_field_pp rfl rfl fd28_2 (by decide)) ?_
      refine ARH.drop (frx := [(1, _), (20, _), (22, _), (23, _)]) ⟨rfl, rfl, rfl, rfl, trivial⟩ ?_
      refine ARH.dry (r := .sl (List.map G.api_Choice.av a_0.L)) rfl (fun _ => aop_load_pp rfl rfl sz25 rfl) ?_
      refine ARH.dry rfl (fun _ => aop_field_pp rfl rfl fd28_3 (by decide)) ?_
      refine ARH.dry (r := i64 a_0.X) rfl (fun _ => aop_load_pp rfl rfl sz3 rfl) ?_
      refine ARH.drop (frx := [(1, _), (20, _), (22, _), (24, _), (26, _)]) ⟨rfl, rfl, rfl, rfl, rfl, trivial⟩ ?_
      refine ARH.dry rfl (fun _ => aop_field_pp rfl rfl fd28_4 (by decide)) ?_
      refine ARH.dry (r := i64 a_0.Y) rfl (fun _ => aop_load_pp rfl rfl sz3 rfl) ?_
      obtain ⟨r33, hr33, h⟩ := Sh.bind_some' h
      refine ARH.dry (r := bl r33) rfl (fun _ => aop_call1 rfl rfl (by simp) (inquestref19_Direct_ok hT hr33)) ?_
      refine ARH.drop (frx := [(1, _), (20, _), (29, _)]) ⟨rfl, rfl, rfl, trivial⟩ ?_
      refine ARH.dry (r := bl (r32 == r33)) rfl (fun _ => aop_eqb rfl rfl rfl Try.underlying4) ?_
      refine ARH.dry (r := bl (r32 == r33)) rfl (fun _ => aop_move (.inl rfl) rfl) ?_
      rcases Bool.eq_false_or_eq_true (r32 == r33) with hb34 | hb34
      · rw [hb34]
        replace h := Sh.if_t h hb34
        refine ARH.dry rfl (fun _ => aop_field_pp rfl rfl fd28_0 (by decide)) ?_
        refine ARH.drop (frx := [(1, _), (31, _), (32, _)]) ⟨rfl, rfl, rfl, trivial⟩ ?_
        refine ARH.dry (r := G.api_Hist.av a_0.H) rfl (fun _ => aop_load_pp rfl rfl sz24 rfl) ?_
        refine ARH.dry rfl (fun _ => aop_field_pp rfl rfl fd28_2 (by decide)) ?_
        refine ARH.dry (r := .sl (List.map G.api_Choice.av a_0.L)) rfl (fun _ => aop_load_pp rfl rfl sz25 rfl) ?_
        refine ARH.drop (frx := [(1, _), (31, _), (33, _), (35, _)]) ⟨rfl, rfl, rfl, rfl, trivial⟩ ?_
        refine ARH.dry rfl (fun _ => aop_field_pp rfl rfl fd28_3 (by decide)) ?_
        refine ARH.dry (r := i64 a_0.X) rfl (fun _ => aop_load_pp rfl rfl sz3 rfl) ?_
        refine ARH.dry rfl (fun _ => aop_field_pp rfl rfl fd28_4 (by decide)) ?_
        refine ARH.drop (frx := [(1, _), (31, _), (33, _), (35, _), (37, _), (38, _)]) ⟨rfl, rfl, rfl, rfl, rfl, rfl, trivial⟩ ?_
        refine ARH.dry (r := i64 a_0.Y) rfl (fun _ => aop_load_pp rfl rfl sz3 rfl) ?_
        obtain ⟨r35, hr35, h⟩ := Sh.bind_some' h
        refine ARH.dry (r := bl r35) rfl (fun _ => aop_call1 rfl rfl (by simp) (edge_Anti_ok hT hr35)) ?_
        refine ARH.dry rfl (fun _ => aop_field_pp rfl rfl fd28_0 (by decide)) ?_
        refine ARH.drop (frx := [(1, _), (31, _), (40, _), (41, _)]) ⟨rfl, rfl, rfl, rfl, trivial⟩ ?_
        refine ARH.dry (r := G.api_Hist.av a_0.H) rfl (fun _ => aop_load_pp rfl rfl sz24 rfl) ?_
        refine ARH.dry rfl (fun _ => aop_field_pp rfl rfl fd28_2 (by decide)) ?_
        refine ARH.dry (r := .sl (List.map G.api_Choice.av a_0.L)) rfl (fun _ => aop_load_pp rfl rfl sz25 rfl) ?_
        refine ARH.drop (frx := [(1, _), (31, _), (40, _), (42, _), (44, _)]) ⟨rfl, rfl, rfl, rfl, rfl, trivial⟩ ?_
        refine ARH.dry rfl (fun _ => aop_field_pp rfl rfl fd28_3 (by decide)) ?_
        refine ARH.dry (r := i64 a_0.X) rfl (fun _ => aop_load_pp rfl rfl sz3 rfl) ?_
        refine ARH.dry rfl (fun _ => aop_field_pp rfl rfl fd28_4 (by decide)) ?_
        refine ARH.drop (frx := [(1, _), (31, _), (40, _), (42, _), (44, _), (46, _), (47, _)]) ⟨rfl, rfl, rfl, rfl, rfl, rfl, rfl, trivial⟩ ?_
        refine ARH.dry (r := i64 a_0.Y) rfl (fun _ => aop_load_pp rfl rfl sz3 rfl) ?_
        obtain ⟨r36, hr36, h⟩ := Sh.bind_some' h
        refine ARH.dry (r := bl r36) rfl (fun _ => aop_call1 rfl rfl (by simp) (inquestref19_Anti_ok hT hr36)) ?_
        refine ARH.dry (r := bl (r35 == r36)) rfl (fun _ => aop_eqb rfl rfl rfl Try.underlying4) ?_
        refine ARH.drop (frx := [(1, _), (31, _), (50, _)]) ⟨rfl, rfl, rfl, trivial⟩ ?_
        refine ARH.dry (r := bl (r35 == r36)) rfl (fun _ => aop_pick rfl rfl rfl) ?_
        refine ARH.dry (r := bl (r35 == r36)) rfl (fun _ => aop_move (.inl rfl) rfl) ?_
        rcases Bool.eq_false_or_eq_true (r35 == r36) with hb37 | hb37
        · rw [hb37]
          replace h := Sh.if_t h hb37
          refine ARH.dry rfl (fun _ => aop_field_pp rfl rfl fd28_0 (by decide)) ?_
          refine ARH.drop (frx := [(1, _), (52, _), (53, _)]) ⟨rfl, rfl, rfl, trivial⟩ ?_
          refine ARH.dry (r := G.api_Hist.av a_0.H) rfl (fun _ => aop_load_pp rfl rfl sz24 rfl) ?_
          refine ARH.dry rfl (fun _ => aop_field_pp rfl rfl fd28_1 (by decide)) ?_
          refine ARH.dry (r := i64 a_0.Level) rfl (fun _ => aop_load_pp rfl rfl sz3 rfl) ?_
          refine ARH.drop (frx := [(1, _), (52, _), (54, _), (56, _)]) ⟨rfl, rfl, rfl, rfl, trivial⟩ ?_
          refine ARH.dry rfl (fun _ => aop_field_pp rfl rfl fd28_2 (by decide)) ?_
          refine ARH.dry (r := .sl (List.map G.api_Choice.av a_0.L)) rfl (fun _ => aop_load_pp rfl rfl sz25 rfl) ?_
          refine ARH.dry rfl (fun _ => aop_field_pp rfl rfl fd28_3 (by decide)) ?_
          refine ARH.drop (frx := [(1, _), (52, _), (54, _), (56, _), (58, _), (59, _)]) ⟨rfl, rfl, rfl, rfl, rfl, rfl, trivial⟩ ?_
          refine ARH.dry (r := i64 a_0.X) rfl (fun _ => aop_load_pp rfl rfl sz3 rfl) ?_
          refine ARH.dry rfl (fun _ => aop_field_pp rfl rfl fd28_4 (by decide)) ?_
          refine ARH.dry (r := i64 a_0.Y) rfl (fun _ => aop_load_pp rfl rfl sz3 rfl) ?_
          refine ARH.drop (frx := [(1, _), (52, _), (54, _), (56, _), (58, _), (60, _), (62, _)]) ⟨rfl, rfl, rfl, rfl, rfl, rfl, rfl, trivial⟩ ?_
          obtain ⟨r38, hr38, h⟩ := Sh.bind_some' h
          refine ARH.dry (r := bl r38) rfl (fun _ => aop_call1 rfl rfl (by simp) (edge_Is_ok hT hr38)) ?_
          refine ARH.dry rfl (fun _ => aop_field_pp rfl rfl fd28_0 (by decide)) ?_
          refine ARH.dry (r := G.api_Hist.av a_0.H) rfl (fun _ => aop_load_pp rfl rfl sz24 rfl) ?_
          refine ARH.drop (frx := [(1, _), (52, _), (63, _), (65, _)]) ⟨rfl, rfl, rfl, rfl, trivial⟩ ?_
          refine ARH.dry rfl (fun _ => aop_field_pp rfl rfl fd28_1 (by decide)) ?_
          refine ARH.dry (r := i64 a_0.Level) rfl (fun _ => aop_load_pp rfl rfl sz3 rfl) ?_
          refine ARH.dry rfl (fun _ => aop_field_pp rfl rfl fd28_2 (by decide)) ?_
          refine ARH.drop (frx := [(1, _), (52, _), (63, _), (65, _), (67, _), (68, _)]) ⟨rfl, rfl, rfl, rfl, rfl, rfl, trivial⟩ ?_
          refine ARH.dry (r := .sl (List.map G.api_Choice.av a_0.L)) rfl (fun _ => aop_load_pp rfl rfl sz25 rfl) ?_
          refine ARH.dry rfl (fun _ => aop_field_pp rfl rfl fd28_3 (by decide)) ?_
          refine ARH.dry (r := i64 a_0.X) rfl (fun _ => aop_load_pp rfl rfl sz3 rfl) ?_
          refine ARH.drop (frx := [(1, _), (52, _), (63, _), (65, _), (67, _), (69, _), (71, _)]) ⟨rfl, rfl, rfl, rfl, rfl, rfl, rfl, trivial⟩ ?_
          refine ARH.dry rfl (fun _ => aop_field_pp rfl rfl fd28_4 (by decide)) ?_
          refine ARH.dry (r := i64 a_0.Y) rfl (fun _ => aop_load_pp rfl rfl sz3 rfl) ?_
          obtain ⟨r39, hr39, h⟩ := Sh.bind_some' h
          refine ARH.dry (r := bl r39) rfl (fun _ => aop_call1 rfl rfl (by simp) (inquestref19_Is_ok hT hr39)) ?_
          refine ARH.drop (frx := [(1, _), (52, _), (63, _), (74, _)]) ⟨rfl, rfl, rfl, rfl, trivial⟩ ?_
          refine ARH.dry (r := bl (r38 == r39)) rfl (fun _ => aop_eqb rfl rfl rfl Try.underlying4) ?_
          refine ARH.dry (r := bl (r38 == r39)) rfl (fun _ => aop_pick rfl rfl rfl) ?_
          refine ARH.dry (r := bl (r38 == r39)) rfl (fun _ => aop_move (.inl rfl) rfl) ?_
          refine ARH.drop (frx := [(1, _), (77, _)]) ⟨rfl, rfl, trivial⟩ ?_
          rcases Bool.eq_false_or_eq_true (r38 == r39) with hb40 | hb40
          · rw [hb40]
            replace h := Sh.if_t h hb40
            refine ARH.dry rfl (fun _ => aop_field_pp rfl rfl fd28_0 (by decide)) ?_
            refine ARH.dry (r := G.api_Hist.av a_0.H) rfl (fun _ => aop_load_pp rfl rfl sz24 rfl) ?_
            refine ARH.dry rfl (fun _ => aop_field_pp rfl rfl fd28_1 (by decide)) ?_
            refine ARH.drop (frx := [(1, _), (77, _), (79, _), (80, _)]) ⟨rfl, rfl, rfl, rfl, trivial⟩ ?_
            refine ARH.dry (r := i64 a_0.Level) rfl (fun _ => aop_load_pp rfl rfl sz3 rfl) ?_
            refine ARH.dry rfl (fun _ => aop_field_pp rfl rfl fd28_2 (by decide)) ?_
            refine ARH.dry (r := .sl (List.map G.api_Choice.av a_0.L)) rfl (fun _ => aop_load_pp rfl rfl sz25 rfl) ?_
            refine ARH.drop (frx := [(1, _), (77, _), (79, _), (81, _), (83, _)]) ⟨rfl, rfl, rfl, rfl, rfl, trivial⟩ ?_
            refine ARH.dry rfl (fun _ => aop_field_pp rfl rfl fd28_5 (by decide)) ?_
            refine ARH.dry (r := .sl (List.map i64 a_0.Row)) rfl (fun _ => aop_load_pp rfl rfl sz26 rfl) ?_
            obtain ⟨r41, hr41, h⟩ := Sh.bind_some' h
            refine ARH.dry (r := bl r41) rfl (fun _ => aop_call1 rfl rfl (by simp) (edge_Cycle_ok hT hr41)) ?_
            refine ARH.drop (frx := [(1, _), (77, _), (86, _)]) ⟨rfl, rfl, rfl, trivial⟩ ?_
            refine ARH.dry rfl (fun _ => aop_field_pp rfl rfl fd28_0 (by decide)) ?_
            refine ARH.dry (r := G.api_Hist.av a_0.H) rfl (fun _ => aop_load_pp rfl rfl sz24 rfl) ?_
            refine ARH.dry rfl (fun _ => aop_field_pp rfl rfl fd28_1 (by decide)) ?_
            refine ARH.drop (frx := [(1, _), (77, _), (86, _), (88, _), (89, _)]) ⟨rfl, rfl, rfl, rfl, rfl, trivial⟩ ?_
            refine ARH.dry (r := i64 a_0.Level) rfl (fun _ => aop_load_pp rfl rfl sz3 rfl) ?_
            refine ARH.dry rfl (fun _ => aop_field_pp rfl rfl fd28_2 (by decide)) ?_
            refine ARH.dry (r := .sl (List.map G.api_Choice.av a_0.L)) rfl (fun _ => aop_load_pp rfl rfl sz25 rfl) ?_
            refine ARH.drop (frx := [(1, _), (77, _), (86, _), (88, _), (90, _), (92, _)]) ⟨rfl, rfl, rfl, rfl, rfl, rfl, trivial⟩ ?_
            refine ARH.dry rfl (fun _ => aop_field_pp rfl rfl fd28_5 (by decide)) ?_
            refine ARH.dry (r := .sl (List.map i64 a_0.Row)) rfl (fun _ => aop_load_pp rfl rfl sz26 rfl) ?_
            obtain ⟨r42, hr42, h⟩ := Sh.bind_some' h
            refine ARH.dry (r := bl r42) rfl (fun _ => aop_call1 rfl rfl (by simp) (inquestref19_Cycle_ok hT hr42)) ?_
            refine ARH.drop (frx := [(77, _), (86, _), (95, _)]) ⟨rfl, rfl, rfl, trivial⟩ ?_
            refine ARH.dry (r := bl (r41 == r42)) rfl (fun _ => aop_eqb rfl rfl rfl Try.underlying4) ?_
            refine ARH.dry (r := bl (r41 == r42)) rfl (fun _ => aop_pick rfl rfl rfl) ?_
            refine ARH.dry (r := bl (r41 == r42)) rfl (fun _ => aop_move (.inr rfl) rfl) ?_
            refine ARH.nil ?_
            refine hK10 _ (AWP.weak (Weak.kp (fr' := [(2, bl (r41 == r42))]) ⟨rfl, trivial⟩) ?_)
            clear hK10 K10
            refine awp_ret ?_
            obtain rfl := Option.some.inj h
            refine ⟨.inr rfl, bl (r41 == r42), rfl, ?_⟩
            exact Weak.re [] [] rfl rfl rfl (trivial) ⟨⟨_, rfl, .same _ (by simp)⟩, trivial⟩
          · rw [hb40]
            replace h := Sh.if_f h hb40
            refine ARH.skip rfl ?_
            refine ARH.skip rfl ?_
            refine ARH.skip rfl ?_
            refine ARH.drop (frx := [(1, _), (77, _), (79, _), (80, _)]) ⟨rfl, rfl, rfl, rfl, trivial⟩ ?_
            refine ARH.skip rfl ?_
            refine ARH.skip rfl ?_
            refine ARH.skip rfl ?_
            refine ARH.drop (frx := [(1, _), (77, _), (79, _), (81, _), (83, _)]) ⟨rfl, rfl, rfl, rfl, rfl, trivial⟩ ?_
            refine ARH.skip rfl ?_
            refine ARH.skip rfl ?_
            refine ARH.skip rfl ?_
            refine ARH.drop (frx := [(1, _), (77, _), (86, _)]) ⟨rfl, rfl, rfl, trivial⟩ ?_
            refine ARH.skip rfl ?_
            refine ARH.skip rfl ?_
            refine ARH.skip rfl ?_
            refine ARH.drop (frx := [(1, _), (77, _), (86, _), (88, _), (89, _)]) ⟨rfl, rfl, rfl, rfl, rfl, trivial⟩ ?_
            refine ARH.skip rfl ?_
            refine ARH.skip rfl ?_
            refine ARH.skip rfl ?_
            refine ARH.drop (frx := [(1, _), (77, _), (86, _), (88, _), (90, _), (92, _)]) ⟨rfl, rfl, rfl, rfl, rfl, rfl, trivial⟩ ?_
            refine ARH.skip rfl ?_
            refine ARH.skip rfl ?_
            refine ARH.skip rfl ?_
            refine ARH.drop (frx := [(77, _), (86, _), (95, _)]) ⟨rfl, rfl, rfl, trivial⟩ ?_
            refine ARH.skip rfl ?_
            refine ARH.dry (r := bl false) rfl (fun _ => aop_pick rfl rfl rfl) ?_
            refine ARH.dry (r := bl false) rfl (fun _ => aop_move (.inr rfl) rfl) ?_
            refine ARH.nil ?_
            refine hK10 _ (AWP.weak (Weak.kp (fr' := [(2, bl false)]) ⟨rfl, trivial⟩) ?_)
            clear hK10 K10
            refine awp_ret ?_
            obtain rfl := Option.some.inj h
            refine ⟨.inr rfl, bl false, rfl, ?_⟩
            exact Weak.re [] [] rfl rfl rfl (trivial) ⟨⟨_, rfl, .same _ (by simp)⟩, trivial⟩
        · rw [hb37]
          replace h := Sh.if_f h hb37
          refine ARH.skip rfl ?_
          refine ARH.drop (frx := [(1, _), (52, _), (53, _)]) ⟨rfl, rfl, rfl, trivial⟩ ?_
          refine ARH.skip rfl ?_
          refine ARH.skip rfl ?_
          refine ARH.skip rfl ?_
          refine ARH.drop (frx := [(1, _), (52, _), (54, _), (56, _)]) ⟨rfl, rfl, rfl, rfl, trivial⟩ ?_
          refine ARH.skip rfl ?_
          refine ARH.skip rfl ?_
          refine ARH.skip rfl ?_
          refine ARH.drop (frx := [(1, _), (52, _), (54, _), (56, _), (58, _), (59, _)]) ⟨rfl, rfl, rfl, rfl, rfl, rfl, trivial⟩ ?_
          refine ARH.skip rfl ?_
          refine ARH.skip rfl ?_
          refine ARH.skip rfl ?_
          refine ARH.drop (frx := [(1, _), (52, _), (54, _), (56, _), (58, _), (60, _), (62, _)]) ⟨rfl, rfl, rfl, rfl, rfl, rfl, rfl, trivial⟩ ?_
          refine ARH.skip rfl ?_
          refine ARH.skip rfl ?_
          refine ARH.skip rfl ?_
          refine ARH.drop (frx := [(1, _), (52, _), (63, _), (65, _)]) ⟨rfl, rfl, rfl, rfl, trivial⟩ ?_
          refine ARH.skip rfl ?_
          refine ARH.skip rfl ?_
          refine ARH.skip rfl ?_
          refine ARH.drop (frx := [(1, _), (52, _), (63, _), (65, _), (67, _), (68, _)]) ⟨rfl, rfl, rfl, rfl, rfl, rfl, trivial⟩ ?_
          refine ARH.skip rfl ?_
          refine ARH.skip rfl ?_
          refine ARH.skip rfl ?_
          refine ARH.drop (frx := [(1, _), (52, _), (63, _), (65, _), (67, _), (69, _), (71, _)]) ⟨rfl, rfl, rfl, rfl, rfl, rfl, rfl, trivial⟩ ?_
          refine ARH.skip rfl ?_
          refine ARH.skip rfl ?_
          refine ARH.skip rfl ?_
          refine ARH.drop (frx := [(1, _), (52, _), (63, _), (74, _)]) ⟨rfl, rfl, rfl, rfl, trivial⟩ ?_
          refine ARH.skip rfl ?_
          refine ARH.dry (r := bl false) rfl (fun _ => aop_pick rfl rfl rfl) ?_
          refine ARH.dry (r := bl false) rfl (fun _ => aop_move (.inl rfl) rfl) ?_
          refine ARH.drop (frx := [(1, _), (77, _)]) ⟨rfl, rfl, trivial⟩ ?_
          refine ARH.skip rfl ?_
          refine ARH.skip rfl ?_
          refine ARH.skip rfl ?_
          refine ARH.drop (frx := [(1, _), (77, _), (79, _), (80, _)]) ⟨rfl, rfl, rfl, rfl, trivial⟩ ?_
          refine ARH.skip rfl ?_
          refine ARH.skip rfl ?_
          refine ARH.skip rfl ?_
          refine ARH.drop (frx := [(1, _), (77, _), (79, _), (81, _), (83, _)]) ⟨rfl, rfl, rfl, rfl, rfl, trivial⟩ ?_
          refine ARH.skip rfl ?_
          refine ARH.skip rfl ?_
          refine ARH.skip rfl ?_
          refine ARH.drop (frx := [(1, _), (77, _), (86, _)]) ⟨rfl, rfl, rfl, trivial⟩ ?_
          refine ARH.skip rfl ?_
          refine ARH.skip rfl ?_
          refine ARH.skip rfl ?_
          refine ARH.drop (frx := [(1, _), (77, _), (86, _), (88, _), (89, _)]) ⟨rfl, rfl, rfl, rfl, rfl, trivial⟩ ?_
          refine ARH.skip rfl ?_
          refine ARH.skip rfl ?_
          refine ARH.skip rfl ?_
          refine ARH.drop (frx := [(1, _), (77, _), (86, _), (88, _), (90, _), (92, _)]) ⟨rfl, rfl, rfl, rfl, rfl, rfl, trivial⟩ ?_
          refine ARH.skip rfl ?_
          refine ARH.skip rfl ?_
          refine ARH.skip rfl ?_
          refine ARH.drop (frx := [(77, _), (86, _), (95, _)]) ⟨rfl, rfl, rfl, trivial⟩ ?_
          refine ARH.skip rfl ?_
          refine ARH.dry (r := bl false) rfl (fun _ => aop_pick rfl rfl rfl) ?_
          refine ARH.dry (r := bl false) rfl (fun _ => aop_move (.inr rfl) rfl) ?_
          refine ARH.nil ?_
          refine hK10 _ (AWP.weak (Weak.kp (fr' := [(2, bl false)]) ⟨rfl, trivial⟩) ?_)
          clear hK10 K10
          refine awp_ret ?_
          obtain rfl := Option.some.inj h
          refine ⟨.inr rfl, bl false, rfl, ?_⟩
          exact Weak.re [] [] rfl rfl rfl (trivial) ⟨⟨_, rfl, .same _ (by simp)⟩, trivial⟩
      · rw [hb34]
        replace h := Sh.if_f h hb34
        refine ARH.skip rfl ?_
        refine ARH.drop (frx := [(1, _), (31, _), (32, _)]) ⟨rfl, rfl, rfl, trivial⟩ ?_
        refine ARH.skip rfl ?_
        refine ARH.skip rfl ?_
        refine ARH.skip rfl ?_
        refine ARH.drop (frx := [(1, _), (31, _), (33, _), (35, _)]) ⟨rfl, rfl, rfl, rfl, trivial⟩ ?_
        refine ARH.skip rfl ?_
        refine ARH.skip rfl ?_
        refine ARH.skip rfl ?_
        refine ARH.drop (frx := [(1, _), (31, _), (33, _), (35, _), (37, _), (38, _)]) ⟨rfl, rfl, rfl, rfl, rfl, rfl, trivial⟩ ?_
        refine ARH.skip rfl ?_
        refine ARH.skip rfl ?_
        refine ARH.skip rfl ?_
        refine ARH.drop (frx := [(1, _), (31, _), (40, _), (41, _)]) ⟨rfl, rfl, rfl, rfl, trivial⟩ ?_
        refine ARH.skip rfl ?_
        refine ARH.skip rfl ?_
        refine ARH.skip rfl ?_
        refine ARH.drop (frx := [(1, _), (31, _), (40, _), (42, _), (44, _)]) ⟨rfl, rfl, rfl, rfl, rfl, trivial⟩ ?_
        refine ARH.skip rfl ?_
        refine ARH.skip rfl ?_
        refine ARH.skip rfl ?_
        refine ARH.drop (frx := [(1, _), (31, _), (40, _), (42, _), (44, _), (46, _), (47, _)]) ⟨rfl, rfl, rfl, rfl, rfl, rfl, rfl, trivial⟩ ?_
        refine ARH.skip rfl ?_
        refine ARH.skip rfl ?_
        refine ARH.skip rfl ?_
        refine ARH.drop (frx := [(1, _), (31, _), (50, _)]) ⟨rfl, rfl, rfl, trivial⟩ ?_
        refine ARH.dry (r := bl false) rfl (fun _ => aop_pick rfl rfl rfl) ?_
        refine ARH.dry (r := bl false) rfl (fun _ => aop_move (.inl rfl) rfl) ?_
        refine ARH.skip rfl ?_
        refine ARH.drop (frx := [(1, _), (52, _), (53, _)]) ⟨rfl, rfl, rfl, trivial⟩ ?_
        refine ARH.skip rfl ?_
        refine ARH.skip rfl ?_
        refine ARH.skip rfl ?_
        refine ARH.drop (frx := [(1, _), (52, _), (54, _), (56, _)]) ⟨rfl, rfl, rfl, rfl, trivial⟩ ?_
        refine ARH.skip rfl ?_
        refine ARH.skip rfl ?_
        refine ARH.skip rfl ?_
        refine ARH.drop (frx := [(1, _), (52, _), (54, _), (56, _), (58, _), (59, _)]) ⟨rfl, rfl, rfl, rfl, rfl, rfl, trivial⟩ ?_
        refine ARH.skip rfl ?_
        refine ARH.skip rfl ?_
        refine ARH.skip rfl ?_
        refine ARH.drop (frx := [(1, _), (52, _), (54, _), (56, _), (58, _), (60, _), (62, _)]) ⟨rfl, rfl, rfl, rfl, rfl, rfl, rfl, trivial⟩ ?_
        refine ARH.skip rfl ?_
        refine ARH.skip rfl ?_
        refine ARH.skip rfl ?_
        refine ARH.drop (frx := [(1, _), (52, _), (63, _), (65, _)]) ⟨rfl, rfl, rfl, rfl, trivial⟩ ?_
        refine ARH.skip rfl ?_
        refine ARH.skip rfl ?_
        refine ARH.skip rfl ?_
        refine ARH.drop (frx := [(1, _), (52, _), (63, _), (65, _), (67, _), (68, _)]) ⟨rfl, rfl, rfl, rfl, rfl, rfl, trivial⟩ ?_
        refine ARH.skip rfl ?_
        refine ARH.skip rfl ?_
        refine ARH.skip rfl ?_
        refine ARH.drop (frx := [(1, _), (52, _), (63, _), (65, _), (67, _), (69, _), (71, _)]) ⟨rfl, rfl, rfl, rfl, rfl, rfl, rfl, trivial⟩ ?_
        refine ARH.skip rfl ?_
        refine ARH.skip rfl ?_
        refine ARH.skip rfl ?_
        refine ARH.drop (frx := [(1, _), (52, _), (63, _), (74, _)]) ⟨rfl, rfl, rfl, rfl, trivial⟩ ?_
        refine ARH.skip rfl ?_
        refine ARH.dry (r := bl false) rfl (fun _ => aop_pick rfl rfl rfl) ?_
        refine ARH.dry (r := bl false) rfl (fun _ => aop_move (.inl rfl) rfl) ?_
        refine ARH.drop (frx := [(1, _), (77, _)]) ⟨rfl, rfl, trivial⟩ ?_
        refine ARH.skip rfl ?_
        refine ARH.skip rfl ?_
        refine ARH.skip rfl ?_
        refine ARH.drop (frx := [(1, _), (77, _), (79, _), (80, _)]) ⟨rfl, rfl, rfl, rfl, trivial⟩ ?_
        refine ARH.skip rfl ?_
        refine ARH.skip rfl ?_
        refine ARH.skip rfl ?_
        refine ARH.drop (frx := [(1, _), (77, _), (79, _), (81, _), (83, _)]) ⟨rfl, rfl, rfl, rfl, rfl, trivial⟩ ?_
        refine ARH.skip rfl ?_
        refine ARH.skip rfl ?_
        refine ARH.skip rfl ?_
        refine ARH.drop (frx := [(1, _), (77, _), (86, _)]) ⟨rfl, rfl, rfl, trivial⟩ ?_
        refine ARH.skip rfl ?_
        refine ARH.skip rfl ?_
        refine ARH.skip rfl ?_
        refine ARH.drop (frx := [(1, _), (77, _), (86, _), (88, _), (89, _)]) ⟨rfl, rfl, rfl, rfl, rfl, trivial⟩ ?_
        refine ARH.skip rfl ?_
        refine ARH.skip rfl ?_
        refine ARH.skip rfl ?_
        refine ARH.drop (frx := [(1, _), (77, _), (86, _), (88, _), (90, _), (92, _)]) ⟨rfl, rfl, rfl, rfl, rfl, rfl, trivial⟩ ?_
        refine ARH.skip rfl ?_
        refine ARH.skip rfl ?_
        refine ARH.skip rfl ?_
        refine ARH.drop (frx := [(77, _), (86, _), (95, _)]) ⟨rfl, rfl, rfl, trivial⟩ ?_
        refine ARH.skip rfl ?_
        refine ARH.dry (r := bl false) rfl (fun _ => aop_pick rfl rfl rfl) ?_
        refine ARH.dry (r := bl false) rfl (fun _ => aop_move (.inr rfl) rfl) ?_
        refine ARH.nil ?_
        refine hK10 _ (AWP.weak (Weak.kp (fr' := [(2, bl false)]) ⟨rfl, trivial⟩) ?_)
        clear hK10 K10
        refine awp_ret ?_
        obtain rfl := Option.some.inj h
        refine ⟨.inr rfl, bl false, rfl, ?_⟩
        exact Weak.re [] [] rfl rfl rfl (trivial) ⟨⟨_, rfl, .same _ (by simp)⟩, trivial⟩
theorem inquestlaw19_EdgeTells_ok {W0 : World} (hT : Tab W0) {a_0 : G.inquestlaw19_At} {r : Bool} (h : G.inquestlaw19_EdgeTells a_0 = some r) : Fun1 Try.prog W0 3 [G.inquestlaw19_At.av a_0] (bl r) := Fun1.two (inquestlaw19_EdgeTells_ok0 hT h) (by simp)

end Wk
