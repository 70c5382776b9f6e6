/- That the functions of a package do what their plain functions say. -/
import Derived.Test.YtcnkohookgfpoaaSh
import Derived.Test.YtcnkohookgfpoaaWkEFacts
open Go Go.Av Go.Proofs
set_option linter.unusedVariables false
namespace Wk
set_option maxHeartbeats 8000000 in
set_option maxRecDepth 20000 in
theorem inquestref08_Few_ok0 {W0 : World} (hT : Tab W0) {h_0 : G.api_Hist} {many_1 : Int} {r : Bool} (h : G.inquestref08_Few h_0 many_1 = some r) : Fun2 Try.prog W0 18 [G.api_Hist.av h_0, i64 many_1] (bl r) .empty := by
  refine fun2_of_awp Try.func18 rfl (by kernel_rfl) Try.ntmps18 (by simp) ?_
  unfold G.inquestref08_Few at h
  show AWP _ _ _ _ ⟨[(0, G.api_Hist.av h_0), (1, i64 many_1)], .empty⟩ _
  refine awp_seqK fun K1 hK1 => ?_
  refine awp_reg rfl ?_
  refine AR.op (r := .ref 0 0 0) rfl (aop_box 1 [G.api_Hist.av h_0] rfl rfl rfl (.inl ⟨rfl, rfl⟩)) ?_
  refine AR.op (r := bl false) rfl (aop_move (.inr rfl) rfl) ?_
  refine AR.nil ?_
  refine hK1 _ (AWP.weak (Weak.re (fr' := [(1, i64 many_1), (2, .pp [.sl (List.map G.api_Txn.av h_0.Txns)] 0)]) (H' := .empty) [] [] rfl rfl rfl (trivial) ⟨⟨_, rfl, .same _ (by simp)⟩, ⟨_, rfl, .frzA rfl rfl rfl rfl (by simp)⟩, trivial⟩) ?_)
  clear hK1 K1
  refine awp_seqK fun K2 hK2 => ?_
  refine awp_seqK fun K3 hK3 => ?_
  refine awp_reg rfl ?_
  refine AR.op rfl (aop_field_pp rfl rfl fd24_0 (by decide)) ?_
  refine AR.op (r := .sl (List.map G.api_Txn.av h_0.Txns)) rfl (aop_load_pp rfl rfl sz22 rfl) ?_
  refine AR.op (r := i64 (Sh.len h_0.Txns)) rfl (t_len_sl G.api_Txn.av h_0.Txns rfl rfl el22) ?_
  refine AR.drop (frx := [(1, _), (2, _), (8, _)]) ⟨rfl, rfl, rfl, trivial⟩ ?_
  refine AR.op (r := i64 many_1) rfl (aop_move (.inl rfl) rfl) ?_
  refine AR.op (r := bl (decide (many_1 < (Sh.len h_0.Txns)))) rfl (aop_gtr rfl rfl rfl) ?_
  refine AR.nil ?_
  refine hK3 _ (AWP.weak (Weak.kp (fr' := [(2, .pp [.sl (List.map G.api_Txn.av h_0.Txns)] 0), (10, bl (decide (many_1 < (Sh.len h_0.Txns))))]) ⟨rfl, rfl, trivial⟩) ?_)
  clear hK3 K3
  refine awp_cond rfl (fun hb21 => ?_) (fun hb21 => ?_)
  · replace h := Sh.if_t h hb21
    refine awp_seqK fun K4 hK4 => ?_
    refine awp_reg rfl ?_
    refine AR.op (r := bl false) rfl (aop_move (.inr rfl) rfl) ?_
    refine AR.nil ?_
    refine hK4 _ (AWP.weak (Weak.kp (fr' := [(4, bl false)]) ⟨rfl, trivial⟩) ?_)
    clear hK4 K4
    refine awp_ret ?_
    obtain rfl := Option.some.inj h
    refine ⟨.inr rfl, bl false, rfl, ?_⟩
    exact Weak.re [] [] rfl rfl rfl (trivial) ⟨⟨_, rfl, .same _ (by simp)⟩, trivial⟩
  · replace h := Sh.if_f h hb21
    refine awp_skip ?_
    refine hK2 _ (AWP.weak (Weak.kp (fr' := [(2, .pp [.sl (List.map G.api_Txn.av h_0.Txns)] 0)]) ⟨rfl, trivial⟩) ?_)
    clear hK2 K2
    refine awp_seqJ (fun (p : Unit) => (⟨[], .empty⟩ : St)) (fun (p : Unit) => G.inquestref08_Few_j1 = some r) ?_ ?_
    · rintro ⟨⟩ h
      replace h : G.inquestref08_Few_j1 = some r := h
      unfold G.inquestref08_Few_j1 at h
      show AWP _ _ _ _ ⟨[], .empty⟩ _
      refine awp_seqK fun K5 hK5 => ?_
      refine awp_reg rfl ?_
      refine AR.op (r := bl true) rfl (aop_move (.inr rfl) rfl) ?_
      refine AR.nil ?_
      refine hK5 _ ?_
      clear hK5 K5
      refine awp_ret ?_
      obtain rfl := Option.some.inj h
      refine ⟨.inr rfl, bl true, rfl, ?_⟩
      exact Weak.re [] [] rfl rfl rfl (trivial) ⟨⟨_, rfl, .same _ (by simp)⟩, trivial⟩
    · intro K6 hK6
      refine awp_seqK fun K7 hK7 => ?_
      refine awp_reg rfl ?_
      refine AR.op (r := i64 0) rfl (aop_move (.inr rfl) rfl) ?_
      refine AR.nil ?_
      refine hK7 _ ?_
      clear hK7 K7
      refine awp_block ?_
      refine awp_iter (fun (p : Int) => G.inquestref08_Few_b1 h_0 p) (fun (p : Int) => (⟨[(2, .pp [.sl (List.map G.api_Txn.av h_0.Txns)] 0), (5, i64 p)], .empty⟩ : St)) h (Weak.kp (fr' := [(2, .pp [.sl (List.map G.api_Txn.av h_0.Txns)] 0), (5, i64 0)]) ⟨rfl, rfl, trivial⟩) ?_
      · skip
        rintro i55 o1 h hx1
        replace h : G.inquestref08_Few_b1 h_0 i55 = some o1 := h
        unfold G.inquestref08_Few_b1 at h
        show AWP _ _ _ _ ⟨[(2, .pp [.sl (List.map G.api_Txn.av h_0.Txns)] 0), (5, i64 i55)], .empty⟩ _
        refine awp_seqK fun K8 hK8 => ?_
        refine awp_seqK fun K9 hK9 => ?_
        refine awp_reg rfl ?_
        refine AR.op (r := i64 i55) rfl (aop_move (.inl rfl) rfl) ?_
        refine AR.op rfl (aop_field_pp rfl rfl fd24_0 (by decide)) ?_
        refine AR.op (r := .sl (List.map G.api_Txn.av h_0.Txns)) rfl (aop_load_pp rfl rfl sz22 rfl) ?_
        refine AR.drop (frx := [(2, _), (5, _), (11, _), (13, _)]) ⟨rfl, rfl, rfl, rfl, trivial⟩ ?_
        refine AR.op (r := i64 (Sh.len h_0.Txns)) rfl (t_len_sl G.api_Txn.av h_0.Txns rfl rfl el22) ?_
        refine AR.op (r := bl (decide (i55 < (Sh.len h_0.Txns)))) rfl (aop_lss rfl rfl rfl) ?_
        refine AR.nil ?_
        refine hK9 _ (AWP.weak (Weak.kp (fr' := [(2, .pp [.sl (List.map G.api_Txn.av h_0.Txns)] 0), (5, i64 i55), (15, bl (decide (i55 < (Sh.len h_0.Txns))))]) ⟨rfl, rfl, rfl, trivial⟩) ?_)
        clear hK9 K9
        refine awp_cond rfl (fun hb56 => ?_) (fun hb56 => ?_)
        · replace h := Sh.if_t h hb56
          refine awp_skip ?_
          refine hK8 _ (AWP.weak (Weak.kp (fr' := [(2, .pp [.sl (List.map G.api_Txn.av h_0.Txns)] 0), (5, i64 i55)]) ⟨rfl, rfl, trivial⟩) ?_)
          clear hK8 K8
          refine awp_seqK fun K10 hK10 => ?_
          refine awp_block ?_
          refine awp_seqJ (fun (p : Bool) => (⟨[(2, .pp [.sl (List.map G.api_Txn.av h_0.Txns)] 0), (5, i64 i55), (35, bl p)], .empty⟩ : St)) (fun (p : Bool) => G.inquestref08_Few_j2 i55 p = some o1) ?_ ?_
          · rintro v68 h
            replace h : G.inquestref08_Few_j2 i55 v68 = some o1 := h
            unfold G.inquestref08_Few_j2 at h
            show AWP _ _ _ _ ⟨[(2, .pp [.sl (List.map G.api_Txn.av h_0.Txns)] 0), (5, i64 i55), (35, bl v68)], .empty⟩ _
            refine awp_cond rfl (fun hb69 => ?_) (fun hb69 => ?_)
            · replace h := Sh.if_t h hb69
              refine awp_seqK fun K11 hK11 => ?_
              refine awp_reg rfl ?_
              refine AR.op (r := bl false) rfl (aop_move (.inr rfl) rfl) ?_
              refine AR.nil ?_
              refine hK11 _ (AWP.weak (Weak.kp (fr' := [(4, bl false)]) ⟨rfl, trivial⟩) ?_)
              clear hK11 K11
              refine awp_ret ?_
              replace h := Sh.exit_eq h hx1
              obtain rfl := Option.some.inj h
              refine ⟨.inr rfl, bl false, rfl, ?_⟩
              exact Weak.re [] [] rfl rfl rfl (trivial) ⟨⟨_, rfl, .same _ (by simp)⟩, trivial⟩
            · replace h := Sh.if_f h hb69
              refine awp_skip ?_
              refine hK10 _ (AWP.weak (Weak.kp (fr' := [(2, .pp [.sl (List.map G.api_Txn.av h_0.Txns)] 0), (5, i64 i55)]) ⟨rfl, rfl, trivial⟩) ?_)
              clear hK10 K10
              refine awp_reg rfl ?_
              refine AR.op (r := i64 i55) rfl (aop_move (.inl rfl) rfl) ?_
              refine AR.op (r := i64 (w64 (i55 + 1))) rfl (aop_add rfl rfl rfl rfl) ?_
              refine AR.op (r := i64 (w64 (i55 + 1))) rfl (aop_move (.inr rfl) rfl) ?_
              refine AR.nil ?_
              replace h := Sh.next_eq h
              exact ⟨_, h, Weak.re (fr' := [(2, .pp [.sl (List.map G.api_Txn.av h_0.Txns)] 0), (5, i64 (w64 (i55 + 1)))]) (H' := .empty) [] [] rfl rfl rfl (trivial) ⟨⟨_, rfl, .same _ (by simp)⟩, ⟨_, rfl, .same _ (by simp)⟩, trivial⟩⟩
          · intro K12 hK12
            refine awp_reg rfl ?_
            refine AR.op rfl (aop_field_pp rfl rfl fd24_0 (by decide)) ?_
            refine AR.op (r := .sl (List.map G.api_Txn.av h_0.Txns)) rfl (aop_load_pp rfl rfl sz22 rfl) ?_
            refine AR.op (r := i64 i55) rfl (aop_move (.inl rfl) rfl) ?_
            refine AR.drop (frx := [(2, _), (5, _), (19, _), (20, _)]) ⟨rfl, rfl, rfl, rfl, trivial⟩ ?_
            obtain ⟨x70, hx70, h⟩ := Sh.bind_some' h
            obtain ⟨k71, hi71, hl71⟩ := Sh.idx_some hx70
            refine AR.op rfl (t_index_sl G.api_Txn.av h_0.Txns hi71 hl71 rfl rfl rfl el22 rfl) ?_
            refine AR.op rfl (aop_field_pp rfl rfl fd47_1 (by decide)) ?_
            refine AR.op (r := .sl (List.map i64 x70.Writes)) rfl (aop_load_pp rfl rfl sz26 rfl) ?_
            refine AR.drop (frx := [(2, _), (5, _), (23, _)]) ⟨rfl, rfl, rfl, trivial⟩ ?_
            refine AR.op (r := i64 (Sh.len x70.Writes)) rfl (t_len_sl i64 x70.Writes rfl rfl el26) ?_
            refine AR.op (r := bl (decide ((20 : Int) < (Sh.len x70.Writes)))) rfl (aop_gtr rfl rfl rfl) ?_
            refine AR.op (r := bl (decide ((20 : Int) < (Sh.len x70.Writes)))) rfl (aop_move (.inl rfl) rfl) ?_
            refine AR.drop (frx := [(2, _), (5, _), (26, _)]) ⟨rfl, rfl, rfl, trivial⟩ ?_
            rcases Bool.eq_false_or_eq_true (decide ((20 : Int) < (Sh.len x70.Writes))) with hb72 | hb72
            · rw [hb72]
              replace h := Sh.if_t h hb72
              refine AR.skip rfl ?_
              refine AR.skip rfl ?_
              refine AR.skip rfl ?_
              refine AR.drop (frx := [(2, _), (5, _), (26, _), (27, _), (28, _), (29, _)]) ⟨rfl, rfl, rfl, rfl, rfl, rfl, trivial⟩ ?_
              refine AR.skip rfl ?_
              refine AR.skip rfl ?_
              refine AR.skip rfl ?_
              refine AR.drop (frx := [(2, _), (5, _), (26, _), (27, _), (28, _), (29, _), (30, _), (31, _), (32, _)]) ⟨rfl, rfl, rfl, rfl, rfl, rfl, rfl, rfl, rfl, trivial⟩ ?_
              refine AR.skip rfl ?_
              refine AR.skip rfl ?_
              refine AR.op (r := bl true) rfl (aop_pick rfl rfl rfl) ?_
              refine AR.nil ?_
              exact hK12 true _ h (Weak.kp (fr' := [(2, .pp [.sl (List.map G.api_Txn.av h_0.Txns)] 0), (5, i64 i55), (35, bl true)]) ⟨rfl, rfl, rfl, trivial⟩)
            · rw [hb72]
              replace h := Sh.if_f h hb72
              refine AR.op rfl (aop_field_pp rfl rfl fd24_0 (by decide)) ?_
              refine AR.op (r := .sl (List.map G.api_Txn.av h_0.Txns)) rfl (aop_load_pp rfl rfl sz22 rfl) ?_
              refine AR.op (r := i64 i55) rfl (aop_move (.inl rfl) rfl) ?_
              refine AR.drop (frx := [(2, _), (5, _), (26, _), (27, _), (28, _), (29, _)]) ⟨rfl, rfl, rfl, rfl, rfl, rfl, trivial⟩ ?_
              obtain ⟨x73, hx73, h⟩ := Sh.bind_some' h
              obtain ⟨k74, hi74, hl74⟩ := Sh.idx_some hx73
              refine AR.op rfl (t_index_sl G.api_Txn.av h_0.Txns hi74 hl74 rfl rfl rfl el22 rfl) ?_
              refine AR.op rfl (aop_field_pp rfl rfl fd47_2 (by decide)) ?_
              refine AR.op (r := .sl (List.map G.api_Take.av x73.Reads)) rfl (aop_load_pp rfl rfl sz43 rfl) ?_
              refine AR.drop (frx := [(2, _), (5, _), (26, _), (27, _), (28, _), (29, _), (30, _), (31, _), (32, _)]) ⟨rfl, rfl, rfl, rfl, rfl, rfl, rfl, rfl, rfl, trivial⟩ ?_
              refine AR.op (r := i64 (Sh.len x73.Reads)) rfl (t_len_sl G.api_Take.av x73.Reads rfl rfl el43) ?_
              refine AR.op (r := bl (decide ((20 : Int) < (Sh.len x73.Reads)))) rfl (aop_gtr rfl rfl rfl) ?_
              refine AR.op (r := bl (decide ((20 : Int) < (Sh.len x73.Reads)))) rfl (aop_pick rfl rfl rfl) ?_
              refine AR.nil ?_
              exact hK12 (decide ((20 : Int) < (Sh.len x73.Reads))) _ h (Weak.re (fr' := [(2, .pp [.sl (List.map G.api_Txn.av h_0.Txns)] 0), (5, i64 i55), (35, bl (decide ((20 : Int) < (Sh.len x73.Reads))))]) (H' := .empty) [] [] rfl rfl rfl (trivial) ⟨⟨_, rfl, .same _ (by simp)⟩, ⟨_, rfl, .same _ (by simp)⟩, ⟨_, rfl, .same _ (by simp)⟩, trivial⟩)
        · replace h := Sh.if_f h hb56
          refine awp_exit ?_
          replace h := Sh.exit_eq h hx1
          exact hK6 () _ h (Weak.kp (fr' := []) trivial)
theorem inquestref08_Few_ok {W0 : World} (hT : Tab W0) {h_0 : G.api_Hist} {many_1 : Int} {r : Bool} (h : G.inquestref08_Few h_0 many_1 = some r) : Fun1 Try.prog W0 18 [G.api_Hist.av h_0, i64 many_1] (bl r) := Fun1.two (inquestref08_Few_ok0 hT h) (by simp)


set_option maxHeartbeats 8000000 in
set_option maxRecDepth 20000 in
theorem inquestref08_Writes_ok0 {W0 : World} (hT : Tab W0) {t_0 : G.api_Txn} {key_1 : Int} {r : Bool} (h : G.inquestref08_Writes t_0 key_1 = some r) : Fun2 Try.prog W0 29 [G.api_Txn.av t_0, i64 key_1] (bl r) .empty := by
  refine fun2_of_awp Try.func29 rfl (by kernel_rfl) Try.ntmps29 (by simp) ?_
  unfold G.inquestref08_Writes at h
  show AWP _ _ _ _ ⟨[(0, G.api_Txn.av t_0), (1, i64 key_1)], .empty⟩ _
  refine awp_seqK fun K1 hK1 => ?_
  refine awp_reg rfl ?_
  refine AR.op (r := .ref 0 0 0) rfl (aop_box 3 [G.api_Txn.av t_0] rfl rfl rfl (.inl ⟨rfl, rfl⟩)) ?_
  refine AR.op (r := bl false) rfl (aop_move (.inr rfl) rfl) ?_
  refine AR.nil ?_
  refine hK1 _ (AWP.weak (Weak.re (fr' := [(1, i64 key_1), (2, .pp [i64 t_0.Session, .sl (List.map i64 t_0.Writes), .sl (List.map G.api_Take.av t_0.Reads)] 0)]) (H' := .empty) [] [] rfl rfl rfl (trivial) ⟨⟨_, rfl, .same _ (by simp)⟩, ⟨_, rfl, .frzA rfl rfl rfl rfl (by simp)⟩, trivial⟩) ?_)
  clear hK1 K1
  refine awp_seqJ (fun (p : Unit) => (⟨[], .empty⟩ : St)) (fun (p : Unit) => G.inquestref08_Writes_j1 = some r) ?_ ?_
  · rintro ⟨⟩ h
    replace h : G.inquestref08_Writes_j1 = some r := h
    unfold G.inquestref08_Writes_j1 at h
    show AWP _ _ _ _ ⟨[], .empty⟩ _
    refine awp_seqK fun K2 hK2 => ?_
    refine awp_reg rfl ?_
    refine AR.op (r := bl false) rfl (aop_move (.inr rfl) rfl) ?_
    refine AR.nil ?_
    refine hK2 _ ?_
    clear hK2 K2
    refine awp_ret ?_
    obtain rfl := Option.some.inj h
    refine ⟨.inr rfl, bl false, rfl, ?_⟩
    exact Weak.re [] [] rfl rfl rfl (trivial) ⟨⟨_, rfl, .same _ (by simp)⟩, trivial⟩
  · intro K3 hK3
    refine awp_seqK fun K4 hK4 => ?_
    refine awp_reg rfl ?_
    refine AR.op (r := i64 0) rfl (aop_move (.inr rfl) rfl) ?_
    refine AR.nil ?_
    refine hK4 _ ?_
    clear hK4 K4
    refine awp_block ?_
    refine awp_iter (fun (p : Int) => G.inquestref08_Writes_b1 t_0 key_1 p) (fun (p : Int) => (⟨[(1, i64 key_1), (2, .pp [i64 t_0.Session, .sl (List.map i64 t_0.Writes), .sl (List.map G.api_Take.av t_0.Reads)] 0), (5, i64 p)], .empty⟩ : St)) h (Weak.kp (fr' := [(1, i64 key_1), (2, .pp [i64 t_0.Session, .sl (List.map i64 t_0.Writes), .sl (List.map G.api_Take.av t_0.Reads)] 0), (5, i64 0)]) ⟨rfl, rfl, rfl, trivial⟩) ?_
    · skip
      rintro i22 o1 h hx1
      replace h : G.inquestref08_Writes_b1 t_0 key_1 i22 = some o1 := h
      unfold G.inquestref08_Writes_b1 at h
      show AWP _ _ _ _ ⟨[(1, i64 key_1), (2, .pp [i64 t_0.Session, .sl (List.map i64 t_0.Writes), .sl (List.map G.api_Take.av t_0.Reads)] 0), (5, i64 i22)], .empty⟩ _
      refine awp_seqK fun K5 hK5 => ?_
      refine awp_seqK fun K6 hK6 => ?_
      refine awp_reg rfl ?_
      refine AR.op (r := i64 i22) rfl (aop_move (.inl rfl) rfl) ?_
      refine AR.op rfl (aop_field_pp rfl rfl fd47_1 (by decide)) ?_
      refine AR.op (r := .sl (List.map i64 t_0.Writes)) rfl (aop_load_pp rfl rfl sz26 rfl) ?_
      refine AR.drop (frx := [(1, _), (2, _), (5, _), (6, _), (8, _)]) ⟨rfl, rfl, rfl, rfl, rfl, trivial⟩ ?_
      refine AR.op (r := i64 (Sh.len t_0.Writes)) rfl (t_len_sl i64 t_0.Writes rfl rfl el26) ?_
      refine AR.op (r := bl (decide (i22 < (Sh.len t_0.Writes)))) rfl (aop_lss rfl rfl rfl) ?_
      refine AR.nil ?_
      refine hK6 _ (AWP.weak (Weak.kp (fr' := [(1, i64 key_1), (2, .pp [i64 t_0.Session, .sl (List.map i64 t_0.Writes), .sl (List.map G.api_Take.av t_0.Reads)] 0), (5, i64 i22), (10, bl (decide (i22 < (Sh.len t_0.Writes))))]) ⟨rfl, rfl, rfl, rfl, trivial⟩) ?_)
      clear hK6 K6
      refine awp_cond rfl (fun hb23 => ?_) (fun hb23 => ?_)
      · replace h := Sh.if_t h hb23
        refine awp_skip ?_
        refine hK5 _ (AWP.weak (Weak.kp (fr' := [(1, i64 key_1), (2, .pp [i64 t_0.Session, .sl (List.map i64 t_0.Writes), .sl (List.map G.api_Take.av t_0.Reads)] 0), (5, i64 i22)]) ⟨rfl, rfl, rfl, trivial⟩) ?_)
        clear hK5 K5
        refine awp_seqK fun K7 hK7 => ?_
        refine awp_block ?_
        refine awp_seqK fun K8 hK8 => ?_
        refine awp_reg rfl ?_
        refine AR.op rfl (aop_field_pp rfl rfl fd47_1 (by decide)) ?_
        refine AR.op (r := .sl (List.map i64 t_0.Writes)) rfl (aop_load_pp rfl rfl sz26 rfl) ?_
        refine AR.op (r := i64 i22) rfl (aop_move (.inl rfl) rfl) ?_
        refine AR.drop (frx := [(1, _), (2, _), (5, _), (14, _), (15, _)]) ⟨rfl, rfl, rfl, rfl, rfl, trivial⟩ ?_
        obtain ⟨x28, hx28, h⟩ := Sh.bind_some' h
        obtain ⟨k29, hi29, hl29⟩ := Sh.idx_some hx28
        refine AR.op rfl (t_index_sl i64 t_0.Writes hi29 hl29 rfl rfl rfl el26 rfl) ?_
        refine AR.op (r := i64 x28) rfl (aop_load_pp rfl rfl sz3 rfl) ?_
        refine AR.op (r := i64 key_1) rfl (aop_move (.inl rfl) rfl) ?_
        refine AR.drop (frx := [(1, _), (2, _), (5, _), (17, _), (18, _)]) ⟨rfl, rfl, rfl, rfl, rfl, trivial⟩ ?_
        refine AR.op (r := bl (decide (x28 = key_1))) rfl (aop_eql rfl rfl rfl) ?_
        refine AR.nil ?_
        refine hK8 _ (AWP.weak (Weak.kp (fr' := [(1, i64 key_1), (2, .pp [i64 t_0.Session, .sl (List.map i64 t_0.Writes), .sl (List.map G.api_Take.av t_0.Reads)] 0), (5, i64 i22), (19, bl (decide (x28 = key_1)))]) ⟨rfl, rfl, rfl, rfl, trivial⟩) ?_)
        clear hK8 K8
        refine awp_cond rfl (fun hb30 => ?_) (fun hb30 => ?_)
        · replace h := Sh.if_t h hb30
          refine awp_seqK fun K9 hK9 => ?_
          refine awp_reg rfl ?_
          refine AR.op (r := bl true) rfl (aop_move (.inr rfl) rfl) ?_
          refine AR.nil ?_
          refine hK9 _ (AWP.weak (Weak.kp (fr' := [(4, bl true)]) ⟨rfl, trivial⟩) ?_)
          clear hK9 K9
          refine awp_ret ?_
          replace h := Sh.exit_eq h hx1
          obtain rfl := Option.some.inj h
          refine ⟨.inr rfl, bl true, rfl, ?_⟩
          exact Weak.re [] [] rfl rfl rfl (trivial) ⟨⟨_, rfl, .same _ (by simp)⟩, trivial⟩
        · replace h := Sh.if_f h hb30
          refine awp_skip ?_
          refine hK7 _ (AWP.weak (Weak.kp (fr' := [(1, i64 key_1), (2, .pp [i64 t_0.Session, .sl (List.map i64 t_0.Writes), .sl (List.map G.api_Take.av t_0.Reads)] 0), (5, i64 i22)]) ⟨rfl, rfl, rfl, trivial⟩) ?_)
          clear hK7 K7
          refine awp_reg rfl ?_
          refine AR.op (r := i64 i22) rfl (aop_move (.inl rfl) rfl) ?_
          refine AR.op (r := i64 (w64 (i22 + 1))) rfl (aop_add rfl rfl rfl rfl) ?_
          refine AR.op (r := i64 (w64 (i22 + 1))) rfl (aop_move (.inr rfl) rfl) ?_
          refine AR.nil ?_
          replace h := Sh.next_eq h
          exact ⟨_, h, Weak.re (fr' := [(1, i64 key_1), (2, .pp [i64 t_0.Session, .sl (List.map i64 t_0.Writes), .sl (List.map G.api_Take.av t_0.Reads)] 0), (5, i64 (w64 (i22 + 1)))]) (H' := .empty) [] [] rfl rfl rfl (trivial) ⟨⟨_, rfl, .same _ (by simp)⟩, ⟨_, rfl, .same _ (by simp)⟩, ⟨_, rfl, .same _ (by simp)⟩, trivial⟩⟩
      · replace h := Sh.if_f h hb23
        refine awp_exit ?_
        replace h := Sh.exit_eq h hx1
        exact hK3 () _ h (Weak.kp (fr' := []) trivial)
theorem inquestref08_Writes_ok {W0 : World} (hT : Tab W0) {t_0 : G.api_Txn} {key_1 : Int} {r : Bool} (h : G.inquestref08_Writes t_0 key_1 = some r) : Fun1 Try.prog W0 29 [G.api_Txn.av t_0, i64 key_1] (bl r) := Fun1.two (inquestref08_Writes_ok0 hT h) (by simp)


set_option maxHeartbeats 8000000 in
set_option maxRecDepth 20000 in
theorem inquestref08_one_ok0 {W0 : World} (hT : Tab W0) {h_0 : G.api_Hist} {n_1 : Int} {r : Bool} (h : G.inquestref08_one h_0 n_1 = some r) : Fun2 Try.prog W0 48 [G.api_Hist.av h_0, i64 n_1] (bl r) .empty := by
  refine fun2_of_awp Try.func48 rfl (by kernel_rfl) Try.ntmps48 (by simp) ?_
  unfold G.inquestref08_one at h
  show AWP _ _ _ _ ⟨[(0, G.api_Hist.av h_0), (1, i64 n_1)], .empty⟩ _
  refine awp_seqK fun K1 hK1 => ?_
  refine awp_reg rfl ?_
  refine AR.op (r := .ref 0 0 0) rfl (aop_box 1 [G.api_Hist.av h_0] rfl rfl rfl (.inl ⟨rfl, rfl⟩)) ?_
  refine AR.op (r := bl false) rfl (aop_move (.inr rfl) rfl) ?_
  refine AR.nil ?_
  refine hK1 _ (AWP.weak (Weak.re (fr' := [(1, i64 n_1), (2, .pp [.sl (List.map G.api_Txn.av h_0.Txns)] 0)]) (H' := .empty) [] [] rfl rfl rfl (trivial) ⟨⟨_, rfl, .same _ (by simp)⟩, ⟨_, rfl, .frzA rfl rfl rfl rfl (by simp)⟩, trivial⟩) ?_)
  clear hK1 K1
  refine awp_seqK fun K2 hK2 => ?_
  refine awp_reg rfl ?_
  refine AR.op rfl (aop_field_pp rfl rfl fd24_0 (by decide)) ?_
  refine AR.op (r := .sl (List.map G.api_Txn.av h_0.Txns)) rfl (aop_load_pp rfl rfl sz22 rfl) ?_
  refine AR.op (r := i64 n_1) rfl (aop_move (.inl rfl) rfl) ?_
  refine AR.drop (frx := [(1, _), (2, _), (11, _), (12, _)]) ⟨rfl, rfl, rfl, rfl, trivial⟩ ?_
  obtain ⟨x84, hx84, h⟩ := Sh.bind_some' h
  obtain ⟨k85, hi85, hl85⟩ := Sh.idx_some hx84
  refine AR.op rfl (t_index_sl G.api_Txn.av h_0.Txns hi85 hl85 rfl rfl rfl el22 rfl) ?_
  refine AR.op (r := G.api_Txn.av x84) rfl (aop_load_pp rfl rfl sz47 rfl) ?_
  refine AR.op (r := .ref 0 0 0) rfl (aop_alloc 3 [.agg [i64 0, nilS, nilS]] rfl zr47 (by kernel_rfl) (.inl ⟨rfl, rfl⟩)) ?_
  refine AR.drop (frx := [(1, _), (2, _), (14, _), (5, _)]) ⟨rfl, rfl, rfl, rfl, trivial⟩ ?_
  refine AR.op rfl (aop_store (e' := G.api_Txn.av x84) rfl rfl rfl rfl rfl rfl sz47 rfl (of_decide_eq_true rfl) rfl) ?_
  refine AR.nil ?_
  refine hK2 _ (AWP.weak (Weak.re (fr' := [(1, i64 n_1), (2, .pp [.sl (List.map G.api_Txn.av h_0.Txns)] 0), (5, .pp [i64 x84.Session, .sl (List.map i64 x84.Writes), .sl (List.map G.api_Take.av x84.Reads)] 0)]) (H' := .empty) [] [] rfl rfl rfl (trivial) ⟨⟨_, rfl, .same _ (by simp)⟩, ⟨_, rfl, .same _ (by simp)⟩, ⟨_, rfl, .frzA rfl rfl rfl rfl (by simp)⟩, trivial⟩) ?_)
  clear hK2 K2
  refine awp_seqK fun K3 hK3 => ?_
  refine awp_seqJ (fun (p : Bool) => (⟨[(1, i64 n_1), (2, .pp [.sl (List.map G.api_Txn.av h_0.Txns)] 0), (5, .pp [i64 x84.Session, .sl (List.map i64 x84.Writes), .sl (List.map G.api_Take.av x84.Reads)] 0), (22, bl p)], .empty⟩ : St)) (fun (p : Bool) => G.inquestref08_one_j1 h_0 n_1 x84 p = some r) ?_ ?_
  · rintro v89 h
    replace h : G.inquestref08_one_j1 h_0 n_1 x84 v89 = some r := h
    unfold G.inquestref08_one_j1 at h
    show AWP _ _ _ _ ⟨[(1, i64 n_1), (2, .pp [.sl (List.map G.api_Txn.av h_0.Txns)] 0), (5, .pp [i64 x84.Session, .sl (List.map i64 x84.Writes), .sl (List.map G.api_Take.av x84.Reads)] 0), (22, bl v89)], .empty⟩ _
    refine awp_cond rfl (fun hb90 => ?_) (fun hb90 => ?_)
    · replace h := Sh.if_t h hb90
      refine awp_seqK fun K4 hK4 => ?_
      refine awp_reg rfl ?_
      refine AR.op (r := bl false) rfl (aop_move (.inr rfl) rfl) ?_
      refine AR.nil ?_
      refine hK4 _ (AWP.weak (Weak.kp (fr' := [(4, bl false)]) ⟨rfl, trivial⟩) ?_)
      clear hK4 K4
      refine awp_ret ?_
      obtain rfl := Option.some.inj h
      refine ⟨.inr rfl, bl false, rfl, ?_⟩
      exact Weak.re [] [] rfl rfl rfl (trivial) ⟨⟨_, rfl, .same _ (by simp)⟩, trivial⟩
    · replace h := Sh.if_f h hb90
      refine awp_skip ?_
      refine hK3 _ (AWP.weak (Weak.kp (fr' := [(1, i64 n_1), (2, .pp [.sl (List.map G.api_Txn.av h_0.Txns)] 0), (5, .pp [i64 x84.Session, .sl (List.map i64 x84.Writes), .sl (List.map G.api_Take.av x84.Reads)] 0)]) ⟨rfl, rfl, rfl, trivial⟩) ?_)
      clear hK3 K3
      refine awp_seqJ (fun (p : Unit) => (⟨[(1, i64 n_1), (2, .pp [.sl (List.map G.api_Txn.av h_0.Txns)] 0), (5, .pp [i64 x84.Session, .sl (List.map i64 x84.Writes), .sl (List.map G.api_Take.av x84.Reads)] 0)], .empty⟩ : St)) (fun (p : Unit) => G.inquestref08_one_j2 h_0 n_1 x84 = some r) ?_ ?_
      · rintro ⟨⟩ h
        replace h : G.inquestref08_one_j2 h_0 n_1 x84 = some r := h
        unfold G.inquestref08_one_j2 at h
        show AWP _ _ _ _ ⟨[(1, i64 n_1), (2, .pp [.sl (List.map G.api_Txn.av h_0.Txns)] 0), (5, .pp [i64 x84.Session, .sl (List.map i64 x84.Writes), .sl (List.map G.api_Take.av x84.Reads)] 0)], .empty⟩ _
        refine awp_seqJ (fun (p : Unit) => (⟨[], .empty⟩ : St)) (fun (p : Unit) => G.inquestref08_one_j3 = some r) ?_ ?_
        · rintro ⟨⟩ h
          replace h : G.inquestref08_one_j3 = some r := h
          unfold G.inquestref08_one_j3 at h
          show AWP _ _ _ _ ⟨[], .empty⟩ _
          refine awp_seqK fun K5 hK5 => ?_
          refine awp_reg rfl ?_
          refine AR.op (r := bl true) rfl (aop_move (.inr rfl) rfl) ?_
          refine AR.nil ?_
          refine hK5 _ ?_
          clear hK5 K5
          refine awp_ret ?_
          obtain rfl := Option.some.inj h
          refine ⟨.inr rfl, bl true, rfl, ?_⟩
          exact Weak.re [] [] rfl rfl rfl (trivial) ⟨⟨_, rfl, .same _ (by simp)⟩, trivial⟩
        · intro K6 hK6
          refine awp_seqK fun K7 hK7 => ?_
          refine awp_reg rfl ?_
          refine AR.op (r := i64 0) rfl (aop_move (.inr rfl) rfl) ?_
          refine AR.nil ?_
          refine hK7 _ ?_
          clear hK7 K7
          refine awp_block ?_
          refine awp_iter (fun (p : Int) => G.inquestref08_one_b1 h_0 n_1 x84 p) (fun (p : Int) => (⟨[(1, i64 n_1), (2, .pp [.sl (List.map G.api_Txn.av h_0.Txns)] 0), (5, .pp [i64 x84.Session, .sl (List.map i64 x84.Writes), .sl (List.map G.api_Take.av x84.Reads)] 0), (7, i64 p)], .empty⟩ : St)) h (Weak.kp (fr' := [(1, i64 n_1), (2, .pp [.sl (List.map G.api_Txn.av h_0.Txns)] 0), (5, .pp [i64 x84.Session, .sl (List.map i64 x84.Writes), .sl (List.map G.api_Take.av x84.Reads)] 0), (7, i64 0)]) ⟨rfl, rfl, rfl, rfl, trivial⟩) ?_
          · skip
            rintro i195 o1 h hx1
            replace h : G.inquestref08_one_b1 h_0 n_1 x84 i195 = some o1 := h
            unfold G.inquestref08_one_b1 at h
            show AWP _ _ _ _ ⟨[(1, i64 n_1), (2, .pp [.sl (List.map G.api_Txn.av h_0.Txns)] 0), (5, .pp [i64 x84.Session, .sl (List.map i64 x84.Writes), .sl (List.map G.api_Take.av x84.Reads)] 0), (7, i64 i195)], .empty⟩ _
            refine awp_seqK fun K8 hK8 => ?_
            refine awp_seqK fun K9 hK9 => ?_
            refine awp_reg rfl ?_
            refine AR.op (r := i64 i195) rfl (aop_move (.inl rfl) rfl) ?_
            refine AR.op rfl (aop_field_pp rfl rfl fd47_2 (by decide)) ?_
            refine AR.op (r := .sl (List.map G.api_Take.av x84.Reads)) rfl (aop_load_pp rfl rfl sz43 rfl) ?_
            refine AR.drop (frx := [(1, _), (2, _), (5, _), (7, _), (62, _), (64, _)]) ⟨rfl, rfl, rfl, rfl, rfl, rfl, trivial⟩ ?_
            refine AR.op (r := i64 (Sh.len x84.Reads)) rfl (t_len_sl G.api_Take.av x84.Reads rfl rfl el43) ?_
            refine AR.op (r := bl (decide (i195 < (Sh.len x84.Reads)))) rfl (aop_lss rfl rfl rfl) ?_
            refine AR.nil ?_
            refine hK9 _ (AWP.weak (Weak.kp (fr' := [(1, i64 n_1), (2, .pp [.sl (List.map G.api_Txn.av h_0.Txns)] 0), (5, .pp [i64 x84.Session, .sl (List.map i64 x84.Writes), .sl (List.map G.api_Take.av x84.Reads)] 0), (7, i64 i195), (66, bl (decide (i195 < (Sh.len x84.Reads))))]) ⟨rfl, rfl, rfl, rfl, rfl, trivial⟩) ?_)
            clear hK9 K9
            refine awp_cond rfl (fun hb196 => ?_) (fun hb196 => ?_)
            · replace h := Sh.if_t h hb196
              refine awp_skip ?_
              refine hK8 _ (AWP.weak (Weak.kp (fr' := [(1, i64 n_1), (2, .pp [.sl (List.map G.api_Txn.av h_0.Txns)] 0), (5, .pp [i64 x84.Session, .sl (List.map i64 x84.Writes), .sl (List.map G.api_Take.av x84.Reads)] 0), (7, i64 i195)]) ⟨rfl, rfl, rfl, rfl, trivial⟩) ?_)
              clear hK8 K8
              refine awp_seqJ (fun (p : Unit) => (⟨[(1, i64 n_1), (2, .pp [.sl (List.map G.api_Txn.av h_0.Txns)] 0), (5, .pp [i64 x84.Session, .sl (List.map i64 x84.Writes), .sl (List.map G.api_Take.av x84.Reads)] 0), (7, i64 i195)], .empty⟩ : St)) (fun (p : Unit) => G.inquestref08_one_j4 i195 = some o1) ?_ ?_
              · rintro ⟨⟩ h
                replace h : G.inquestref08_one_j4 i195 = some o1 := h
                unfold G.inquestref08_one_j4 at h
                show AWP _ _ _ _ ⟨[(1, i64 n_1), (2, .pp [.sl (List.map G.api_Txn.av h_0.Txns)] 0), (5, .pp [i64 x84.Session, .sl (List.map i64 x84.Writes), .sl (List.map G.api_Take.av x84.Reads)] 0), (7, i64 i195)], .empty⟩ _
                refine awp_reg rfl ?_
                refine AR.op (r := i64 i195) rfl (aop_move (.inl rfl) rfl) ?_
                refine AR.op (r := i64 (w64 (i195 + 1))) rfl (aop_add rfl rfl rfl rfl) ?_
                refine AR.op (r := i64 (w64 (i195 + 1))) rfl (aop_move (.inr rfl) rfl) ?_
                refine AR.nil ?_
                replace h := Sh.next_eq h
                exact ⟨_, h, Weak.re (fr' := [(1, i64 n_1), (2, .pp [.sl (List.map G.api_Txn.av h_0.Txns)] 0), (5, .pp [i64 x84.Session, .sl (List.map i64 x84.Writes), .sl (List.map G.api_Take.av x84.Reads)] 0), (7, i64 (w64 (i195 + 1)))]) (H' := .empty) [] [] rfl rfl rfl (trivial) ⟨⟨_, rfl, .same _ (by simp)⟩, ⟨_, rfl, .same _ (by simp)⟩, ⟨_, rfl, .same _ (by simp)⟩, ⟨_, rfl, .same _ (by simp)⟩, trivial⟩⟩
              · intro K10 hK10
                refine awp_block ?_
                refine awp_seqK fun K11 hK11 => ?_
                refine awp_reg rfl ?_
                refine AR.op rfl (aop_field_pp rfl rfl fd47_2 (by decide)) ?_
                refine AR.op (r := .sl (List.map G.api_Take.av x84.Reads)) rfl (aop_load_pp rfl rfl sz43 rfl) ?_
                refine AR.op (r := i64 i195) rfl (aop_move (.inl rfl) rfl) ?_
                refine AR.drop (frx := [(1, _), (2, _), (5, _), (7, _), (70, _), (71, _)]) ⟨rfl, rfl, rfl, rfl, rfl, rfl, trivial⟩ ?_
                obtain ⟨x215, hx215, h⟩ := Sh.bind_some' h
                obtain ⟨k216, hi216, hl216⟩ := Sh.idx_some hx215
                refine AR.op rfl (t_index_sl G.api_Take.av x84.Reads hi216 hl216 rfl rfl rfl el43 rfl) ?_
                refine AR.op (r := G.api_Take.av x215) rfl (aop_load_pp rfl rfl sz50 rfl) ?_
                refine AR.op (r := .ref 0 0 0) rfl (aop_alloc 2 [.agg [i64 0, i64 0]] rfl zr50 (by kernel_rfl) (.inl ⟨rfl, rfl⟩)) ?_
                refine AR.drop (frx := [(1, _), (2, _), (5, _), (7, _), (73, _), (8, _)]) ⟨rfl, rfl, rfl, rfl, rfl, rfl, trivial⟩ ?_
                refine AR.op rfl (aop_store (e' := G.api_Take.av x215) rfl rfl rfl rfl rfl rfl sz50 rfl (of_decide_eq_true rfl) rfl) ?_
                refine AR.nil ?_
                refine hK11 _ (AWP.weak (Weak.re (fr' := [(1, i64 n_1), (2, .pp [.sl (List.map G.api_Txn.av h_0.Txns)] 0), (5, .pp [i64 x84.Session, .sl (List.map i64 x84.Writes), .sl (List.map G.api_Take.av x84.Reads)] 0), (7, i64 i195), (8, .pp [i64 x215.Key, i64 x215.From] 0)]) (H' := .empty) [] [] rfl rfl rfl (trivial) ⟨⟨_, rfl, .same _ (by simp)⟩, ⟨_, rfl, .same _ (by simp)⟩, ⟨_, rfl, .same _ (by simp)⟩, ⟨_, rfl, .same _ (by simp)⟩, ⟨_, rfl, .frzA rfl rfl rfl rfl (by simp)⟩, trivial⟩) ?_)
                clear hK11 K11
                refine awp_seqK fun K12 hK12 => ?_
                refine awp_seqJ (fun (p : Bool) => (⟨[(1, i64 n_1), (2, .pp [.sl (List.map G.api_Txn.av h_0.Txns)] 0), (5, .pp [i64 x84.Session, .sl (List.map i64 x84.Writes), .sl (List.map G.api_Take.av x84.Reads)] 0), (7, i64 i195), (8, .pp [i64 x215.Key, i64 x215.From] 0), (116, bl p)], .empty⟩ : St)) (fun (p : Bool) => G.inquestref08_one_j5 h_0 i195 x215 p = some o1) ?_ ?_
                · rintro v238 h
                  replace h : G.inquestref08_one_j5 h_0 i195 x215 v238 = some o1 := h
                  unfold G.inquestref08_one_j5 at h
                  show AWP _ _ _ _ ⟨[(1, i64 n_1), (2, .pp [.sl (List.map G.api_Txn.av h_0.Txns)] 0), (5, .pp [i64 x84.Session, .sl (List.map i64 x84.Writes), .sl (List.map G.api_Take.av x84.Reads)] 0), (7, i64 i195), (8, .pp [i64 x215.Key, i64 x215.From] 0), (116, bl v238)], .empty⟩ _
                  refine awp_cond rfl (fun hb239 => ?_) (fun hb239 => ?_)
                  · replace h := Sh.if_t h hb239
                    refine awp_seqK fun K13 hK13 => ?_
                    refine awp_reg rfl ?_
                    refine AR.op (r := bl false) rfl (aop_move (.inr rfl) rfl) ?_
                    refine AR.nil ?_
                    refine hK13 _ (AWP.weak (Weak.kp (fr' := [(4, bl false)]) ⟨rfl, trivial⟩) ?_)
                    clear hK13 K13
                    refine awp_ret ?_
                    replace h := Sh.exit_eq h hx1
                    obtain rfl := Option.some.inj h
                    refine ⟨.inr rfl, bl false, rfl, ?_⟩
                    exact Weak.re [] [] rfl rfl rfl (trivial) ⟨⟨_, rfl, .same _ (by simp)⟩, trivial⟩
                  · replace h := Sh.if_f h hb239
                    refine awp_skip ?_
                    refine hK12 _ (AWP.weak (Weak.kp (fr' := [(1, i64 n_1), (2, .pp [.sl (List.map G.api_Txn.av h_0.Txns)] 0), (5, .pp [i64 x84.Session, .sl (List.map i64 x84.Writes), .sl (List.map G.api_Take.av x84.Reads)] 0), (7, i64 i195), (8, .pp [i64 x215.Key, i64 x215.From] 0)]) ⟨rfl, rfl, rfl, rfl, rfl, trivial⟩) ?_)
                    clear hK12 K12
                    refine awp_seqK fun K14 hK14 => ?_
                    refine awp_seqK fun K15 hK15 => ?_
                    refine awp_reg rfl ?_
                    refine AR.op rfl (aop_field_pp rfl rfl fd50_1 (by decide)) ?_
                    refine AR.op (r := i64 x215.From) rfl (aop_load_pp rfl rfl sz3 rfl) ?_
                    refine AR.op (r := bl (decide (x215.From < 0))) rfl (aop_lss rfl rfl rfl) ?_
                    refine AR.nil ?_
                    refine hK15 _ (AWP.weak (Weak.kp (fr' := [(1, i64 n_1), (2, .pp [.sl (List.map G.api_Txn.av h_0.Txns)] 0), (5, .pp [i64 x84.Session, .sl (List.map i64 x84.Writes), .sl (List.map G.api_Take.av x84.Reads)] 0), (7, i64 i195), (8, .pp [i64 x215.Key, i64 x215.From] 0), (119, bl (decide (x215.From < 0)))]) ⟨rfl, rfl, rfl, rfl, rfl, rfl, trivial⟩) ?_)
                    clear hK15 K15
                    refine awp_cond rfl (fun hb240 => ?_) (fun hb240 => ?_)
                    · replace h := Sh.if_t h hb240
                      refine awp_exit ?_
                      exact hK10 () _ h (Weak.kp (fr' := [(1, i64 n_1), (2, .pp [.sl (List.map G.api_Txn.av h_0.Txns)] 0), (5, .pp [i64 x84.Session, .sl (List.map i64 x84.Writes), .sl (List.map G.api_Take.av x84.Reads)] 0), (7, i64 i195)]) ⟨rfl, rfl, rfl, rfl, trivial⟩)
                    · replace h := Sh.if_f h hb240
                      refine awp_skip ?_
                      refine hK14 _ (AWP.weak (Weak.kp (fr' := [(1, i64 n_1), (2, .pp [.sl (List.map G.api_Txn.av h_0.Txns)] 0), (5, .pp [i64 x84.Session, .sl (List.map i64 x84.Writes), .sl (List.map G.api_Take.av x84.Reads)] 0), (7, i64 i195), (8, .pp [i64 x215.Key, i64 x215.From] 0)]) ⟨rfl, rfl, rfl, rfl, rfl, trivial⟩) ?_)
                      clear hK14 K14
                      refine awp_seqK fun K16 hK16 => ?_
                      refine awp_any [(true, false), (true, false), (true, false), (true, false), (true, false), (true, false), (true, false), (true, false), (true, false), (true, false)] (by kernel_rfl) (by kernel_rfl) rfl ?_
                      refine ARH.dry rfl (fun _ => aop_field_pp rfl rfl fd24_0 (by decide)) ?_
                      refine ARH.dry (r := .sl (List.map G.api_Txn.av h_0.Txns)) rfl (fun _ => aop_load_pp rfl rfl sz22 rfl) ?_
                      refine ARH.dry rfl (fun _ => aop_field_pp rfl rfl fd50_1 (by decide)) ?_
                      refine ARH.drop (frx := [(1, _), (2, _), (5, _), (7, _), (8, _), (121, _), (122, _)]) ⟨rfl, rfl, rfl, rfl, rfl, rfl, rfl, trivial⟩ ?_
                      refine ARH.dry (r := i64 x215.From) rfl (fun _ => aop_load_pp rfl rfl sz3 rfl) ?_
                      obtain ⟨x244, hx244, h⟩ := Sh.bind_some' h
                      obtain ⟨k245, hi245, hl245⟩ := Sh.idx_some hx244
                      refine ARH.dry rfl (fun _ => t_index_sl G.api_Txn.av h_0.Txns hi245 hl245 rfl rfl rfl el22 rfl) ?_
                      refine ARH.dry (r := G.api_Txn.av x244) rfl (fun _ => aop_load_pp rfl rfl sz47 rfl) ?_
                      refine ARH.drop (frx := [(1, _), (2, _), (5, _), (7, _), (8, _), (125, _)]) ⟨rfl, rfl, rfl, rfl, rfl, rfl, trivial⟩ ?_
                      refine ARH.dry rfl (fun _ => aop_field_pp rfl rfl fd50_0 (by decide)) ?_
                      refine ARH.dry (r := i64 x215.Key) rfl (fun _ => aop_load_pp rfl rfl sz3 rfl) ?_
                      obtain ⟨r246, hr246, h⟩ := Sh.bind_some' h
                      refine ARH.dry (r := bl r246) rfl (fun _ => aop_call1 rfl rfl (by simp) (inquestref08_Writes_ok hT hr246)) ?_
                      refine ARH.drop (frx := [(1, _), (2, _), (5, _), (7, _), (128, _)]) ⟨rfl, rfl, rfl, rfl, rfl, trivial⟩ ?_
                      refine ARH.dry (r := bl r246) rfl (fun _ => aop_move (.inr rfl) rfl) ?_
                      refine ARH.nil ?_
                      refine hK16 _ (AWP.weak (Weak.kp (fr' := [(1, i64 n_1), (2, .pp [.sl (List.map G.api_Txn.av h_0.Txns)] 0), (5, .pp [i64 x84.Session, .sl (List.map i64 x84.Writes), .sl (List.map G.api_Take.av x84.Reads)] 0), (7, i64 i195), (9, bl r246)]) ⟨rfl, rfl, rfl, rfl, rfl, trivial⟩) ?_)
                      clear hK16 K16
                      refine awp_seqK fun K17 hK17 => ?_
                      refine awp_reg rfl ?_
                      refine AR.op (r := bl r246) rfl (aop_move (.inl rfl) rfl) ?_
                      refine AR.op (r := bl (!r246)) rfl (aop_not rfl rfl) ?_
                      refine AR.nil ?_
                      refine hK17 _ (AWP.weak (Weak.kp (fr' := [(1, i64 n_1), (2, .pp [.sl (List.map G.api_Txn.av h_0.Txns)] 0), (5, .pp [i64 x84.Session, .sl (List.map i64 x84.Writes), .sl (List.map G.api_Take.av x84.Reads)] 0), (7, i64 i195), (130, bl (!r246))]) ⟨rfl, rfl, rfl, rfl, rfl, trivial⟩) ?_)
                      clear hK17 K17
                      refine awp_cond rfl (fun hb247 => ?_) (fun hb247 => ?_)
                      · replace h := Sh.if_t h hb247
                        refine awp_seqK fun K18 hK18 => ?_
                        refine awp_reg rfl ?_
                        refine AR.op (r := bl false) rfl (aop_move (.inr rfl) rfl) ?_
                        refine AR.nil ?_
                        refine hK18 _ (AWP.weak (Weak.kp (fr' := [(4, bl false)]) ⟨rfl, trivial⟩) ?_)
                        clear hK18 K18
                        refine awp_ret ?_
                        replace h := Sh.exit_eq h hx1
                        obtain rfl := Option.some.inj h
                        refine ⟨.inr rfl, bl false, rfl, ?_⟩
                        exact Weak.re [] [] rfl rfl rfl (trivial) ⟨⟨_, rfl, .same _ (by simp)⟩, trivial⟩
                      · replace h := Sh.if_f h hb247
                        refine awp_skip ?_
                        exact hK10 () _ h (Weak.kp (fr' := [(1, i64 n_1), (2, .pp [.sl (List.map G.api_Txn.av h_0.Txns)] 0), (5, .pp [i64 x84.Session, .sl (List.map i64 x84.Writes), .sl (List.map G.api_Take.av x84.Reads)] 0), (7, i64 i195)]) ⟨rfl, rfl, rfl, rfl, trivial⟩)
                · intro K19 hK19
                  refine awp_any [(true, false), (true, false), (true, false), (true, false), (true, false), (true, false), (true, false), (true, false), (true, false), (true, false), (true, false), (true, false), (true, false), (true, false), (true, false), (true, false), (true, false), (true, false), (true, false), (true, false), (true, false), (true, false), (true, false), (true, false), (true, false), (true, false), (true, false), (true, false), (true, false), (true, false), (true, false), (true, false), (true, false), (true, false), (true, false), (true, false), (true, false), (true, false), (true, false), (true, false), (true, false), (true, false), (true, false)] (by kernel_rfl) (by kernel_rfl) rfl ?_
                  refine ARH.dry rfl (fun _ => aop_field_pp rfl rfl fd50_0 (by decide)) ?_
                  refine ARH.dry (r := i64 x215.Key) rfl (fun _ => aop_load_pp rfl rfl sz3 rfl) ?_
                  refine ARH.dry (r := bl (decide (x215.Key < 0))) rfl (fun _ => aop_lss rfl rfl rfl) ?_
                  refine ARH.drop (frx := [(1, _), (2, _), (5, _), (7, _), (8, _), (76, _)]) ⟨rfl, rfl, rfl, rfl, rfl, rfl, trivial⟩ ?_
                  refine ARH.dry (r := bl (decide (x215.Key < 0))) rfl (fun _ => aop_move (.inl rfl) rfl) ?_
                  rcases Bool.eq_false_or_eq_true (decide (x215.Key < 0)) with hb248 | hb248
                  · rw [hb248]
                    replace h := Sh.if_t h hb248
                    refine ARH.skip rfl ?_
                    refine ARH.skip rfl ?_
                    refine ARH.drop (frx := [(1, _), (2, _), (5, _), (7, _), (8, _), (77, _), (78, _), (79, _)]) ⟨rfl, rfl, rfl, rfl, rfl, rfl, rfl, rfl, trivial⟩ ?_
                    refine ARH.skip rfl ?_
                    refine ARH.dry (r := bl true) rfl (fun _ => aop_pick rfl rfl rfl) ?_
                    refine ARH.dry (r := bl true) rfl (fun _ => aop_move (.inl rfl) rfl) ?_
                    refine ARH.drop (frx := [(1, _), (2, _), (5, _), (7, _), (8, _), (78, _), (79, _), (80, _), (82, _)]) ⟨rfl, rfl, rfl, rfl, rfl, rfl, rfl, rfl, rfl, trivial⟩ ?_
                    refine ARH.skip rfl ?_
                    refine ARH.skip rfl ?_
                    refine ARH.skip rfl ?_
                    refine ARH.drop (frx := [(1, _), (2, _), (5, _), (7, _), (8, _), (78, _), (79, _), (80, _), (82, _), (83, _), (84, _), (85, _)]) ⟨rfl, rfl, rfl, rfl, rfl, rfl, rfl, rfl, rfl, rfl, rfl, rfl, trivial⟩ ?_
                    refine ARH.skip rfl ?_
                    refine ARH.skip rfl ?_
                    refine ARH.skip rfl ?_
                    refine ARH.drop (frx := [(1, _), (2, _), (5, _), (7, _), (8, _), (78, _), (79, _), (80, _), (82, _), (83, _), (84, _), (85, _), (86, _), (87, _), (88, _)]) ⟨rfl, rfl, rfl, rfl, rfl, rfl, rfl, rfl, rfl, rfl, rfl, rfl, rfl, rfl, rfl, trivial⟩ ?_
                    refine ARH.skip rfl ?_
                    refine ARH.skip rfl ?_
                    refine ARH.skip rfl ?_
                    refine ARH.drop (frx := [(1, _), (2, _), (5, _), (7, _), (8, _), (78, _), (79, _), (80, _), (82, _), (83, _), (84, _), (85, _), (86, _), (87, _), (88, _), (89, _), (90, _), (91, _)]) ⟨rfl, rfl, rfl, rfl, rfl, rfl, rfl, rfl, rfl, rfl, rfl, rfl, rfl, rfl, rfl, rfl, rfl, rfl, trivial⟩ ?_
                    refine ARH.skip rfl ?_
                    refine ARH.skip rfl ?_
                    refine ARH.skip rfl ?_
                    refine ARH.drop (frx := [(1, _), (2, _), (5, _), (7, _), (8, _), (78, _), (79, _), (80, _), (82, _), (83, _), (84, _), (85, _), (86, _), (87, _), (88, _), (89, _), (90, _), (91, _), (92, _), (93, _), (94, _)]) ⟨rfl, rfl, rfl, rfl, rfl, rfl, rfl, rfl, rfl, rfl, rfl, rfl, rfl, rfl, rfl, rfl, rfl, rfl, rfl, rfl, rfl, trivial⟩ ?_
                    refine ARH.skip rfl ?_
                    refine ARH.skip rfl ?_
                    refine ARH.dry (r := bl true) rfl (fun _ => aop_pick rfl rfl rfl) ?_
                    refine ARH.drop (frx := [(1, _), (2, _), (5, _), (7, _), (8, _), (78, _), (79, _), (80, _), (83, _), (84, _), (85, _), (86, _), (87, _), (88, _), (89, _), (90, _), (91, _), (92, _), (93, _), (94, _), (95, _), (96, _), (97, _)]) ⟨rfl, rfl, rfl, rfl, rfl, rfl, rfl, rfl, rfl, rfl, rfl, rfl, rfl, rfl, rfl, rfl, rfl, rfl, rfl, rfl, rfl, rfl, rfl, trivial⟩ ?_
                    refine ARH.dry (r := bl true) rfl (fun _ => aop_move (.inl rfl) rfl) ?_
                    refine ARH.skip rfl ?_
                    refine ARH.skip rfl ?_
                    refine ARH.drop (frx := [(1, _), (2, _), (5, _), (7, _), (8, _), (78, _), (79, _), (80, _), (83, _), (84, _), (85, _), (86, _), (87, _), (88, _), (89, _), (90, _), (91, _), (92, _), (93, _), (94, _), (95, _), (96, _), (98, _), (99, _), (100, _)]) ⟨rfl, rfl, rfl, rfl, rfl, rfl, rfl, rfl, rfl, rfl, rfl, rfl, rfl, rfl, rfl, rfl, rfl, rfl, rfl, rfl, rfl, rfl, rfl, rfl, rfl, trivial⟩ ?_
                    refine ARH.skip rfl ?_
                    refine ARH.dry (r := bl true) rfl (fun _ => aop_pick rfl rfl rfl) ?_
                    refine ARH.dry (r := bl true) rfl (fun _ => aop_move (.inl rfl) rfl) ?_
                    refine ARH.drop (frx := [(1, _), (2, _), (5, _), (7, _), (8, _), (78, _), (79, _), (80, _), (83, _), (84, _), (85, _), (86, _), (87, _), (88, _), (89, _), (90, _), (91, _), (92, _), (93, _), (94, _), (95, _), (96, _), (99, _), (100, _), (101, _), (103, _)]) ⟨rfl, rfl, rfl, rfl, rfl, rfl, rfl, rfl, rfl, rfl, rfl, rfl, rfl, rfl, rfl, rfl, rfl, rfl, rfl, rfl, rfl, rfl, rfl, rfl, rfl, rfl, trivial⟩ ?_
                    refine ARH.skip rfl ?_
                    refine ARH.skip rfl ?_
                    refine ARH.skip rfl ?_
                    refine ARH.drop (frx := [(1, _), (2, _), (5, _), (7, _), (8, _), (78, _), (79, _), (80, _), (83, _), (84, _), (85, _), (86, _), (87, _), (88, _), (89, _), (90, _), (91, _), (92, _), (93, _), (94, _), (95, _), (96, _), (99, _), (100, _), (101, _), (103, _), (104, _), (105, _), (106, _)]) ⟨rfl, rfl, rfl, rfl, rfl, rfl, rfl, rfl, rfl, rfl, rfl, rfl, rfl, rfl, rfl, rfl, rfl, rfl, rfl, rfl, rfl, rfl, rfl, rfl, rfl, rfl, rfl, rfl, rfl, trivial⟩ ?_
                    refine ARH.skip rfl ?_
                    refine ARH.skip rfl ?_
                    refine ARH.skip rfl ?_
                    refine ARH.drop (frx := [(1, _), (2, _), (5, _), (7, _), (8, _), (78, _), (79, _), (80, _), (83, _), (84, _), (85, _), (86, _), (87, _), (88, _), (89, _), (90, _), (91, _), (92, _), (93, _), (94, _), (95, _), (96, _), (99, _), (100, _), (101, _), (103, _), (104, _), (105, _), (106, _), (107, _), (108, _), (109, _)]) ⟨rfl, rfl, rfl, rfl, rfl, rfl, rfl, rfl, rfl, rfl, rfl, rfl, rfl, rfl, rfl, rfl, rfl, rfl, rfl, rfl, rfl, rfl, rfl, rfl, rfl, rfl, rfl, rfl, rfl, rfl, rfl, rfl, trivial⟩ ?_
                    refine ARH.dry (r := bl true) rfl (fun _ => aop_pick rfl rfl rfl) ?_
                    refine ARH.dry (r := bl true) rfl (fun _ => aop_move (.inl rfl) rfl) ?_
                    refine ARH.skip rfl ?_
                    refine ARH.drop (frx := [(1, _), (2, _), (5, _), (7, _), (8, _), (78, _), (79, _), (80, _), (83, _), (84, _), (85, _), (86, _), (87, _), (88, _), (89, _), (90, _), (91, _), (92, _), (93, _), (94, _), (95, _), (96, _), (99, _), (100, _), (101, _), (104, _), (105, _), (106, _), (107, _), (108, _), (109, _), (111, _), (112, _)]) ⟨rfl, rfl, rfl, rfl, rfl, rfl, rfl, rfl, rfl, rfl, rfl, rfl, rfl, rfl, rfl, rfl, rfl, rfl, rfl, rfl, rfl, rfl, rfl, rfl, rfl, rfl, rfl, rfl, rfl, rfl, rfl, rfl, rfl, trivial⟩ ?_
                    refine ARH.skip rfl ?_
                    refine ARH.skip rfl ?_
                    refine ARH.skip rfl ?_
                    refine ARH.drop (frx := [(1, _), (2, _), (5, _), (7, _), (8, _), (78, _), (79, _), (80, _), (83, _), (84, _), (85, _), (86, _), (87, _), (88, _), (89, _), (90, _), (91, _), (92, _), (93, _), (94, _), (95, _), (96, _), (99, _), (100, _), (101, _), (104, _), (105, _), (106, _), (107, _), (108, _), (109, _), (111, _), (112, _), (113, _), (114, _), (115, _)]) ⟨rfl, rfl, rfl, rfl, rfl, rfl, rfl, rfl, rfl, rfl, rfl, rfl, rfl, rfl, rfl, rfl, rfl, rfl, rfl, rfl, rfl, rfl, rfl, rfl, rfl, rfl, rfl, rfl, rfl, rfl, rfl, rfl, rfl, rfl, rfl, rfl, trivial⟩ ?_
                    refine ARH.dry (r := bl true) rfl (fun _ => aop_pick rfl rfl rfl) ?_
                    refine ARH.nil ?_
                    exact hK19 true _ h (Weak.kp (fr' := [(1, i64 n_1), (2, .pp [.sl (List.map G.api_Txn.av h_0.Txns)] 0), (5, .pp [i64 x84.Session, .sl (List.map i64 x84.Writes), .sl (List.map G.api_Take.av x84.Reads)] 0), (7, i64 i195), (8, .pp [i64 x215.Key, i64 x215.From] 0), (116, bl true)]) ⟨rfl, rfl, rfl, rfl, rfl, rfl, trivial⟩)
                  · rw [hb248]
                    replace h := Sh.if_f h hb248
                    refine ARH.dry rfl (fun _ => aop_field_pp rfl rfl fd50_0 (by decide)) ?_
                    refine ARH.dry (r := i64 x215.Key) rfl (fun _ => aop_load_pp rfl rfl sz3 rfl) ?_
                    refine ARH.drop (frx := [(1, _), (2, _), (5, _), (7, _), (8, _), (77, _), (78, _), (79, _)]) ⟨rfl, rfl, rfl, rfl, rfl, rfl, rfl, rfl, trivial⟩ ?_
                    refine ARH.dry (r := bl (decide ((15 : Int) < x215.Key))) rfl (fun _ => aop_gtr rfl rfl rfl) ?_
                    refine ARH.dry (r := bl (decide ((15 : Int) < x215.Key))) rfl (fun _ => aop_pick rfl rfl rfl) ?_
                    refine ARH.dry (r := bl (decide ((15 : Int) < x215.Key))) rfl (fun _ => aop_move (.inl rfl) rfl) ?_
                    refine ARH.drop (frx := [(1, _), (2, _), (5, _), (7, _), (8, _), (78, _), (79, _), (80, _), (82, _)]) ⟨rfl, rfl, rfl, rfl, rfl, rfl, rfl, rfl, rfl, trivial⟩ ?_
                    rcases Bool.eq_false_or_eq_true (decide ((15 : Int) < x215.Key)) with hb249 | hb249
                    · rw [hb249]
                      replace h := Sh.if_t h hb249
                      refine ARH.skip rfl ?_
                      refine ARH.skip rfl ?_
                      refine ARH.skip rfl ?_
                      refine ARH.drop (frx := [(1, _), (2, _), (5, _), (7, _), (8, _), (78, _), (79, _), (80, _), (82, _), (83, _), (84, _), (85, _)]) ⟨rfl, rfl, rfl, rfl, rfl, rfl, rfl, rfl, rfl, rfl, rfl, rfl, trivial⟩ ?_
                      refine ARH.skip rfl ?_
                      refine ARH.skip rfl ?_
                      refine ARH.skip rfl ?_
                      refine ARH.drop (frx := [(1, _), (2, _), (5, _), (7, _), (8, _), (78, _), (79, _), (80, _), (82, _), (83, _), (84, _), (85, _), (86, _), (87, _), (88, _)]) ⟨rfl, rfl, rfl, rfl, rfl, rfl, rfl, rfl, rfl, rfl, rfl, rfl, rfl, rfl, rfl, trivial⟩ ?_
                      refine ARH.skip rfl ?_
                      refine ARH.skip rfl ?_
                      refine ARH.skip rfl ?_
                      refine ARH.drop (frx := [(1, _), (2, _), (5, _), (7, _), (8, _), (78, _), (79, _), (80, _), (82, _), (83, _), (84, _), (85, _), (86, _), (87, _), (88, _), (89, _), (90, _), (91, _)]) ⟨rfl, rfl, rfl, rfl, rfl, rfl, rfl, rfl, rfl, rfl, rfl, rfl, rfl, rfl, rfl, rfl, rfl, rfl, trivial⟩ ?_
                      refine ARH.skip rfl ?_
                      refine ARH.skip rfl ?_
                      refine ARH.skip rfl ?_
                      refine ARH.drop (frx := [(1, _), (2, _), (5, _), (7, _), (8, _), (78, _), (79, _), (80, _), (82, _), (83, _), (84, _), (85, _), (86, _), (87, _), (88, _), (89, _), (90, _), (91, _), (92, _), (93, _), (94, _)]) ⟨rfl, rfl, rfl, rfl, rfl, rfl, rfl, rfl, rfl, rfl, rfl, rfl, rfl, rfl, rfl, rfl, rfl, rfl, rfl, rfl, rfl, trivial⟩ ?_
                      refine ARH.skip rfl ?_
                      refine ARH.skip rfl ?_
                      refine ARH.dry (r := bl true) rfl (fun _ => aop_pick rfl rfl rfl) ?_
                      refine ARH.drop (frx := [(1, _), (2, _), (5, _), (7, _), (8, _), (78, _), (79, _), (80, _), (83, _), (84, _), (85, _), (86, _), (87, _), (88, _), (89, _), (90, _), (91, _), (92, _), (93, _), (94, _), (95, _), (96, _), (97, _)]) ⟨rfl, rfl, rfl, rfl, rfl, rfl, rfl, rfl, rfl, rfl, rfl, rfl, rfl, rfl, rfl, rfl, rfl, rfl, rfl, rfl, rfl, rfl, rfl, trivial⟩ ?_
                      refine ARH.dry (r := bl true) rfl (fun _ => aop_move (.inl rfl) rfl) ?_
                      refine ARH.skip rfl ?_
                      refine ARH.skip rfl ?_
                      refine ARH.drop (frx := [(1, _), (2, _), (5, _), (7, _), (8, _), (78, _), (79, _), (80, _), (83, _), (84, _), (85, _), (86, _), (87, _), (88, _), (89, _), (90, _), (91, _), (92, _), (93, _), (94, _), (95, _), (96, _), (98, _), (99, _), (100, _)]) ⟨rfl, rfl, rfl, rfl, rfl, rfl, rfl, rfl, rfl, rfl, rfl, rfl, rfl, rfl, rfl, rfl, rfl, rfl, rfl, rfl, rfl, rfl, rfl, rfl, rfl, trivial⟩ ?_
                      refine ARH.skip rfl ?_
                      refine ARH.dry (r := bl true) rfl (fun _ => aop_pick rfl rfl rfl) ?_
                      refine ARH.dry (r := bl true) rfl (fun _ => aop_move (.inl rfl) rfl) ?_
                      refine ARH.drop (frx := [(1, _), (2, _), (5, _), (7, _), (8, _), (78, _), (79, _), (80, _), (83, _), (84, _), (85, _), (86, _), (87, _), (88, _), (89, _), (90, _), (91, _), (92, _), (93, _), (94, _), (95, _), (96, _), (99, _), (100, _), (101, _), (103, _)]) ⟨rfl, rfl, rfl, rfl, rfl, rfl, rfl, rfl, rfl, rfl, rfl, rfl, rfl, rfl, rfl, rfl, rfl, rfl, rfl, rfl, rfl, rfl, rfl, rfl, rfl, rfl, trivial⟩ ?_
                      refine ARH.skip rfl ?_
                      refine ARH.skip rfl ?_
                      refine ARH.skip rfl ?_
                      refine ARH.drop (frx := [(1, _), (2, _), (5, _), (7, _), (8, _), (78, _), (79, _), (80, _), (83, _), (84, _), (85, _), (86, _), (87, _), (88, _), (89, _), (90, _), (91, _), (92, _), (93, _), (94, _), (95, _), (96, _), (99, _), (100, _), (101, _), (103, _), (104, _), (105, _), (106, _)]) ⟨rfl, rfl, rfl, rfl, rfl, rfl, rfl, rfl, rfl, rfl, rfl, rfl, rfl, rfl, rfl, rfl, rfl, rfl, rfl, rfl, rfl, rfl, rfl, rfl, rfl, rfl, rfl, rfl, rfl, trivial⟩ ?_
                      refine ARH.skip rfl ?_
                      refine ARH.skip rfl ?_
                      refine ARH.skip rfl ?_
                      refine ARH.drop (frx := [(1, _), (2, _), (5, _), (7, _), (8, _), (78, _), (79, _), (80, _), (83, _), (84, _), (85, _), (86, _), (87, _), (88, _), (89, _), (90, _), (91, _), (92, _), (93, _), (94, _), (95, _), (96, _), (99, _), (100, _), (101, _), (103, _), (104, _), (105, _), (106, _), (107, _), (108, _), (109, _)]) ⟨rfl, rfl, rfl, rfl, rfl, rfl, rfl, rfl, rfl, rfl, rfl, rfl, rfl, rfl, rfl, rfl, rfl, rfl, rfl, rfl, rfl, rfl, rfl, rfl, rfl, rfl, rfl, rfl, rfl, rfl, rfl, rfl, trivial⟩ ?_
                      refine ARH.dry (r := bl true) rfl (fun _ => aop_pick rfl rfl rfl) ?_
                      refine ARH.dry (r := bl true) rfl (fun _ => aop_move (.inl rfl) rfl) ?_
                      refine ARH.skip rfl ?_
                      refine ARH.drop (frx := [(1, _), (2, _), (5, _), (7, _), (8, _), (78, _), (79, _), (80, _), (83, _), (84, _), (85, _), (86, _), (87, _), (88, _), (89, _), (90, _), (91, _), (92, _), (93, _), (94, _), (95, _), (96, _), (99, _), (100, _), (101, _), (104, _), (105, _), (106, _), (107, _), (108, _), (109, _), (111, _), (112, _)]) ⟨rfl, rfl, rfl, rfl, rfl, rfl, rfl, rfl, rfl, rfl, rfl, rfl, rfl, rfl, rfl, rfl, rfl, rfl, rfl, rfl, rfl, rfl, rfl, rfl, rfl, rfl, rfl, rfl, rfl, rfl, rfl, rfl, rfl, trivial⟩ ?_
                      refine ARH.skip rfl ?_
                      refine ARH.skip rfl ?_
                      refine ARH.skip rfl ?_
                      refine ARH.drop (frx := [(1, _), (2, _), (5, _), (7, _), (8, _), (78, _), (79, _), (80, _), (83, _), (84, _), (85, _), (86, _), (87, _), (88, _), (89, _), (90, _), (91, _), (92, _), (93, _), (94, _), (95, _), (96, _), (99, _), (100, _), (101, _), (104, _), (105, _), (106, _), (107, _), (108, _), (109, _), (111, _), (112, _), (113, _), (114, _), (115, _)]) ⟨rfl, rfl, rfl, rfl, rfl, rfl, rfl, rfl, rfl, rfl, rfl, rfl, rfl, rfl, rfl, rfl, rfl, rfl, rfl, rfl, rfl, rfl, rfl, rfl, rfl, rfl, rfl, rfl, rfl, rfl, rfl, rfl, rfl, rfl, rfl, rfl, trivial⟩ ?_
                      refine ARH.dry (r := bl true) rfl (fun _ => aop_pick rfl rfl rfl) ?_
                      refine ARH.nil ?_
                      exact hK19 true _ h (Weak.kp (fr' := [(1, i64 n_1), (2, .pp [.sl (List.map G.api_Txn.av h_0.Txns)] 0), (5, .pp [i64 x84.Session, .sl (List.map i64 x84.Writes), .sl (List.map G.api_Take.av x84.Reads)] 0), (7, i64 i195), (8, .pp [i64 x215.Key, i64 x215.From] 0), (116, bl true)]) ⟨rfl, rfl, rfl, rfl, rfl, rfl, trivial⟩)
                    · rw [hb249]
                      replace h := Sh.if_f h hb249
                      refine ARH.dry (r := i64 i195) rfl (fun _ => aop_move (.inl rfl) rfl) ?_
                      refine ARH.dry (r := bl (decide ((0 : Int) < i195))) rfl (fun _ => aop_gtr rfl rfl rfl) ?_
                      refine ARH.dry (r := bl (decide ((0 : Int) < i195))) rfl (fun _ => aop_move (.inl rfl) rfl) ?_
                      refine ARH.drop (frx := [(1, _), (2, _), (5, _), (7, _), (8, _), (78, _), (79, _), (80, _), (82, _), (83, _), (84, _), (85, _)]) ⟨rfl, rfl, rfl, rfl, rfl, rfl, rfl, rfl, rfl, rfl, rfl, rfl, trivial⟩ ?_
                      rcases Bool.eq_false_or_eq_true (decide ((0 : Int) < i195)) with hb250 | hb250
                      · rw [hb250]
                        replace h := Sh.if_t h hb250
                        refine ARH.dry rfl (fun _ => aop_field_pp rfl rfl fd47_2 (by decide)) ?_
                        refine ARH.dry (r := .sl (List.map G.api_Take.av x84.Reads)) rfl (fun _ => aop_load_pp rfl rfl sz43 rfl) ?_
                        refine ARH.dry (r := i64 i195) rfl (fun _ => aop_move (.inl rfl) rfl) ?_
                        refine ARH.drop (frx := [(1, _), (2, _), (5, _), (7, _), (8, _), (78, _), (79, _), (80, _), (82, _), (83, _), (84, _), (85, _), (86, _), (87, _), (88, _)]) ⟨rfl, rfl, rfl, rfl, rfl, rfl, rfl, rfl, rfl, rfl, rfl, rfl, rfl, rfl, rfl, trivial⟩ ?_
                        refine ARH.dry (r := i64 (w64 (i195 - 1))) rfl (fun _ => aop_sub rfl rfl rfl rfl) ?_
                        obtain ⟨x251, hx251, h⟩ := Sh.bind_some' h
                        obtain ⟨k252, hi252, hl252⟩ := Sh.idx_some hx251
                        refine ARH.dry rfl (fun _ => t_index_sl G.api_Take.av x84.Reads hi252 hl252 rfl rfl rfl el43 rfl) ?_
                        refine ARH.dry rfl (fun _ => aop_field_pp rfl rfl fd50_0 (by decide)) ?_
                        refine ARH.drop (frx := [(1, _), (2, _), (5, _), (7, _), (8, _), (78, _), (79, _), (80, _), (82, _), (83, _), (84, _), (85, _), (86, _), (87, _), (88, _), (89, _), (90, _), (91, _)]) ⟨rfl, rfl, rfl, rfl, rfl, rfl, rfl, rfl, rfl, rfl, rfl, rfl, rfl, rfl, rfl, rfl, rfl, rfl, trivial⟩ ?_
                        refine ARH.dry (r := i64 x251.Key) rfl (fun _ => aop_load_pp rfl rfl sz3 rfl) ?_
                        refine ARH.dry rfl (fun _ => aop_field_pp rfl rfl fd50_0 (by decide)) ?_
                        refine ARH.dry (r := i64 x215.Key) rfl (fun _ => aop_load_pp rfl rfl sz3 rfl) ?_
                        refine ARH.drop (frx := [(1, _), (2, _), (5, _), (7, _), (8, _), (78, _), (79, _), (80, _), (82, _), (83, _), (84, _), (85, _), (86, _), (87, _), (88, _), (89, _), (90, _), (91, _), (92, _), (93, _), (94, _)]) ⟨rfl, rfl, rfl, rfl, rfl, rfl, rfl, rfl, rfl, rfl, rfl, rfl, rfl, rfl, rfl, rfl, rfl, rfl, rfl, rfl, rfl, trivial⟩ ?_
                        refine ARH.dry (r := bl (decide (x215.Key ≤ x251.Key))) rfl (fun _ => aop_geq rfl rfl rfl) ?_
                        refine ARH.dry (r := bl (decide (x215.Key ≤ x251.Key))) rfl (fun _ => aop_pick rfl rfl rfl) ?_
                        refine ARH.dry (r := bl (decide (x215.Key ≤ x251.Key))) rfl (fun _ => aop_pick rfl rfl rfl) ?_
                        refine ARH.drop (frx := [(1, _), (2, _), (5, _), (7, _), (8, _), (78, _), (79, _), (80, _), (83, _), (84, _), (85, _), (86, _), (87, _), (88, _), (89, _), (90, _), (91, _), (92, _), (93, _), (94, _), (95, _), (96, _), (97, _)]) ⟨rfl, rfl, rfl, rfl, rfl, rfl, rfl, rfl, rfl, rfl, rfl, rfl, rfl, rfl, rfl, rfl, rfl, rfl, rfl, rfl, rfl, rfl, rfl, trivial⟩ ?_
                        refine ARH.dry (r := bl (decide (x215.Key ≤ x251.Key))) rfl (fun _ => aop_move (.inl rfl) rfl) ?_
                        rcases Bool.eq_false_or_eq_true (decide (x215.Key ≤ x251.Key)) with hb253 | hb253
                        · rw [hb253]
                          replace h := Sh.if_t h hb253
                          refine ARH.skip rfl ?_
                          refine ARH.skip rfl ?_
                          refine ARH.drop (frx := [(1, _), (2, _), (5, _), (7, _), (8, _), (78, _), (79, _), (80, _), (83, _), (84, _), (85, _), (86, _), (87, _), (88, _), (89, _), (90, _), (91, _), (92, _), (93, _), (94, _), (95, _), (96, _), (98, _), (99, _), (100, _)]) ⟨rfl, rfl, rfl, rfl, rfl, rfl, rfl, rfl, rfl, rfl, rfl, rfl, rfl, rfl, rfl, rfl, rfl, rfl, rfl, rfl, rfl, rfl, rfl, rfl, rfl, trivial⟩ ?_
                          refine ARH.skip rfl ?_
                          refine ARH.dry (r := bl true) rfl (fun _ => aop_pick rfl rfl rfl) ?_
                          refine ARH.dry (r := bl true) rfl (fun _ => aop_move (.inl rfl) rfl) ?_
                          refine ARH.drop (frx := [(1, _), (2, _), (5, _), (7, _), (8, _), (78, _), (79, _), (80, _), (83, _), (84, _), (85, _), (86, _), (87, _), (88, _), (89, _), (90, _), (91, _), (92, _), (93, _), (94, _), (95, _), (96, _), (99, _), (100, _), (101, _), (103, _)]) ⟨rfl, rfl, rfl, rfl, rfl, rfl, rfl, rfl, rfl, rfl, rfl, rfl, rfl, rfl, rfl, rfl, rfl, rfl, rfl, rfl, rfl, rfl, rfl, rfl, rfl, rfl, trivial⟩ ?_
                          refine ARH.skip rfl ?_
                          refine ARH.skip rfl ?_
                          refine ARH.skip rfl ?_
                          refine ARH.drop (frx := [(1, _), (2, _), (5, _), (7, _), (8, _), (78, _), (79, _), (80, _), (83, _), (84, _), (85, _), (86, _), (87, _), (88, _), (89, _), (90, _), (91, _), (92, _), (93, _), (94, _), (95, _), (96, _), (99, _), (100, _), (101, _), (103, _), (104, _), (105, _), (106, _)]) ⟨rfl, rfl, rfl, rfl, rfl, rfl, rfl, rfl, rfl, rfl, rfl, rfl, rfl, rfl, rfl, rfl, rfl, rfl, rfl, rfl, rfl, rfl, rfl, rfl, rfl, rfl, rfl, rfl, rfl, trivial⟩ ?_
                          refine ARH.skip rfl ?_
                          refine ARH.skip rfl ?_
                          refine ARH.skip rfl ?_
                          refine ARH.drop (frx := [(1, _), (2, _), (5, _), (7, _), (8, _), (78, _), (79, _), (80, _), (83, _), (84, _), (85, _), (86, _), (87, _), (88, _), (89, _), (90, _), (91, _), (92, _), (93, _), (94, _), (95, _), (96, _), (99, _), (100, _), (101, _), (103, _), (104, _), (105, _), (106, _), (107, _), (108, _), (109, _)]) ⟨rfl, rfl, rfl, rfl, rfl, rfl, rfl, rfl, rfl, rfl, rfl, rfl, rfl, rfl, rfl, rfl, rfl, rfl, rfl, rfl, rfl, rfl, rfl, rfl, rfl, rfl, rfl, rfl, rfl, rfl, rfl, rfl, trivial⟩ ?_
                          refine ARH.dry (r := bl true) rfl (fun _ => aop_pick rfl rfl rfl) ?_
                          refine ARH.dry (r := bl true) rfl (fun _ => aop_move (.inl rfl) rfl) ?_
                          refine ARH.skip rfl ?_
                          refine ARH.drop (frx := [(1, _), (2, _), (5, _), (7, _), (8, _), (78, _), (79, _), (80, _), (83, _), (84, _), (85, _), (86, _), (87, _), (88, _), (89, _), (90, _), (91, _), (92, _), (93, _), (94, _), (95, _), (96, _), (99, _), (100, _), (101, _), (104, _), (105, _), (106, _), (107, _), (108, _), (109, _), (111, _), (112, _)]) ⟨rfl, rfl, rfl, rfl, rfl, rfl, rfl, rfl, rfl, rfl, rfl, rfl, rfl, rfl, rfl, rfl, rfl, rfl, rfl, rfl, rfl, rfl, rfl, rfl, rfl, rfl, rfl, rfl, rfl, rfl, rfl, rfl, rfl, trivial⟩ ?_
                          refine ARH.skip rfl ?_
                          refine ARH.skip rfl ?_
                          refine ARH.skip rfl ?_
                          refine ARH.drop (frx := [(1, _), (2, _), (5, _), (7, _), (8, _), (78, _), (79, _), (80, _), (83, _), (84, _), (85, _), (86, _), (87, _), (88, _), (89, _), (90, _), (91, _), (92, _), (93, _), (94, _), (95, _), (96, _), (99, _), (100, _), (101, _), (104, _), (105, _), (106, _), (107, _), (108, _), (109, _), (111, _), (112, _), (113, _), (114, _), (115, _)]) ⟨rfl, rfl, rfl, rfl, rfl, rfl, rfl, rfl, rfl, rfl, rfl, rfl, rfl, rfl, rfl, rfl, rfl, rfl, rfl, rfl, rfl, rfl, rfl, rfl, rfl, rfl, rfl, rfl, rfl, rfl, rfl, rfl, rfl, rfl, rfl, rfl, trivial⟩ ?_
                          refine ARH.dry (r := bl true) rfl (fun _ => aop_pick rfl rfl rfl) ?_
                          refine ARH.nil ?_
                          exact hK19 true _ h (Weak.kp (fr' := [(1, i64 n_1), (2, .pp [.sl (List.map G.api_Txn.av h_0.Txns)] 0), (5, .pp [i64 x84.Session, .sl (List.map i64 x84.Writes), .sl (List.map G.api_Take.av x84.Reads)] 0), (7, i64 i195), (8, .pp [i64 x215.Key, i64 x215.From] 0), (116, bl true)]) ⟨rfl, rfl, rfl, rfl, rfl, rfl, trivial⟩)
                        · rw [hb253]
                          replace h := Sh.if_f h hb253
                          refine ARH.dry rfl (fun _ => aop_field_pp rfl rfl fd50_1 (by decide)) ?_
                          refine ARH.dry (r := i64 x215.From) rfl (fun _ => aop_load_pp rfl rfl sz3 rfl) ?_
                          refine ARH.drop (frx := [(1, _), (2, _), (5, _), (7, _), (8, _), (78, _), (79, _), (80, _), (83, _), (84, _), (85, _), (86, _), (87, _), (88, _), (89, _), (90, _), (91, _), (92, _), (93, _), (94, _), (95, _), (96, _), (98, _), (99, _), (100, _)]) ⟨rfl, rfl, rfl, rfl, rfl, rfl, rfl, rfl, rfl, rfl, rfl, rfl, rfl, rfl, rfl, rfl, rfl, rfl, rfl, rfl, rfl, rfl, rfl, rfl, rfl, trivial⟩ ?_
                          refine ARH.dry (r := bl (decide (x215.From < (-1)))) rfl (fun _ => aop_lss rfl rfl rfl) ?_
                          refine ARH.dry (r := bl (decide (x215.From < (-1)))) rfl (fun _ => aop_pick rfl rfl rfl) ?_
                          refine ARH.dry (r := bl (decide (x215.From < (-1)))) rfl (fun _ => aop_move (.inl rfl) rfl) ?_
                          refine ARH.drop (frx := [(1, _), (2, _), (5, _), (7, _), (8, _), (78, _), (79, _), (80, _), (83, _), (84, _), (85, _), (86, _), (87, _), (88, _), (89, _), (90, _), (91, _), (92, _), (93, _), (94, _), (95, _), (96, _), (99, _), (100, _), (101, _), (103, _)]) ⟨rfl, rfl, rfl, rfl, rfl, rfl, rfl, rfl, rfl, rfl, rfl, rfl, rfl, rfl, rfl, rfl, rfl, rfl, rfl, rfl, rfl, rfl, rfl, rfl, rfl, rfl, trivial⟩ ?_
                          rcases Bool.eq_false_or_eq_true (decide (x215.From < (-1))) with hb254 | hb254
                          · rw [hb254]
                            replace h := Sh.if_t h hb254
                            refine ARH.skip rfl ?_
                            refine ARH.skip rfl ?_
                            refine ARH.skip rfl ?_
                            refine ARH.drop (frx := [(1, _), (2, _), (5, _), (7, _), (8, _), (78, _), (79, _), (80, _), (83, _), (84, _), (85, _), (86, _), (87, _), (88, _), (89, _), (90, _), (91, _), (92, _), (93, _), (94, _), (95, _), (96, _), (99, _), (100, _), (101, _), (103, _), (104, _), (105, _), (106, _)]) ⟨rfl, rfl, rfl, rfl, rfl, rfl, rfl, rfl, rfl, rfl, rfl, rfl, rfl, rfl, rfl, rfl, rfl, rfl, rfl, rfl, rfl, rfl, rfl, rfl, rfl, rfl, rfl, rfl, rfl, trivial⟩ ?_
                            refine ARH.skip rfl ?_
                            refine ARH.skip rfl ?_
                            refine ARH.skip rfl ?_
                            refine ARH.drop (frx := [(1, _), (2, _), (5, _), (7, _), (8, _), (78, _), (79, _), (80, _), (83, _), (84, _), (85, _), (86, _), (87, _), (88, _), (89, _), (90, _), (91, _), (92, _), (93, _), (94, _), (95, _), (96, _), (99, _), (100, _), (101, _), (103, _), (104, _), (105, _), (106, _), (107, _), (108, _), (109, _)]) ⟨rfl, rfl, rfl, rfl, rfl, rfl, rfl, rfl, rfl, rfl, rfl, rfl, rfl, rfl, rfl, rfl, rfl, rfl, rfl, rfl, rfl, rfl, rfl, rfl, rfl, rfl, rfl, rfl, rfl, rfl, rfl, rfl, trivial⟩ ?_
                            refine ARH.dry (r := bl true) rfl (fun _ => aop_pick rfl rfl rfl) ?_
                            refine ARH.dry (r := bl true) rfl (fun _ => aop_move (.inl rfl) rfl) ?_
                            refine ARH.skip rfl ?_
                            refine ARH.drop (frx := [(1, _), (2, _), (5, _), (7, _), (8, _), (78, _), (79, _), (80, _), (83, _), (84, _), (85, _), (86, _), (87, _), (88, _), (89, _), (90, _), (91, _), (92, _), (93, _), (94, _), (95, _), (96, _), (99, _), (100, _), (101, _), (104, _), (105, _), (106, _), (107, _), (108, _), (109, _), (111, _), (112, _)]) ⟨rfl, rfl, rfl, rfl, rfl, rfl, rfl, rfl, rfl, rfl, rfl, rfl, rfl, rfl, rfl, rfl, rfl, rfl, rfl, rfl, rfl, rfl, rfl, rfl, rfl, rfl, rfl, rfl, rfl, rfl, rfl, rfl, rfl, trivial⟩ ?_
                            refine ARH.skip rfl ?_
                            refine ARH.skip rfl ?_
                            refine ARH.skip rfl ?_
                            refine ARH.drop (frx := [(1, _), (2, _), (5, _), (7, _), (8, _), (78, _), (79, _), (80, _), (83, _), (84, _), (85, _), (86, _), (87, _), (88, _), (89, _), (90, _), (91, _), (92, _), (93, _), (94, _), (95, _), (96, _), (99, _), (100, _), (101, _), (104, _), (105, _), (106, _), (107, _), (108, _), (109, _), (111, _), (112, _), (113, _), (114, _), (115, _)]) ⟨rfl, rfl, rfl, rfl, rfl, rfl, rfl, rfl, rfl, rfl, rfl, rfl, rfl, rfl, rfl, rfl, rfl, rfl, rfl, rfl, rfl, rfl, rfl, rfl, rfl, rfl, rfl, rfl, rfl, rfl, rfl, rfl, rfl, rfl, rfl, rfl, trivial⟩ ?_
                            refine ARH.dry (r := bl true) rfl (fun _ => aop_pick rfl rfl rfl) ?_
                            refine ARH.nil ?_
                            exact hK19 true _ h (Weak.kp (fr' := [(1, i64 n_1), (2, .pp [.sl (List.map G.api_Txn.av h_0.Txns)] 0), (5, .pp [i64 x84.Session, .sl (List.map i64 x84.Writes), .sl (List.map G.api_Take.av x84.Reads)] 0), (7, i64 i195), (8, .pp [i64 x215.Key, i64 x215.From] 0), (116, bl true)]) ⟨rfl, rfl, rfl, rfl, rfl, rfl, trivial⟩)
                          · rw [hb254]
                            replace h := Sh.if_f h hb254
                            refine ARH.dry rfl (fun _ => aop_field_pp rfl rfl fd50_1 (by decide)) ?_
                            refine ARH.dry (r := i64 x215.From) rfl (fun _ => aop_load_pp rfl rfl sz3 rfl) ?_
                            refine ARH.dry rfl (fun _ => aop_field_pp rfl rfl fd24_0 (by decide)) ?_
                            refine ARH.drop (frx := [(1, _), (2, _), (5, _), (7, _), (8, _), (78, _), (79, _), (80, _), (83, _), (84, _), (85, _), (86, _), (87, _), (88, _), (89, _), (90, _), (91, _), (92, _), (93, _), (94, _), (95, _), (96, _), (99, _), (100, _), (101, _), (103, _), (104, _), (105, _), (106, _)]) ⟨rfl, rfl, rfl, rfl, rfl, rfl, rfl, rfl, rfl, rfl, rfl, rfl, rfl, rfl, rfl, rfl, rfl, rfl, rfl, rfl, rfl, rfl, rfl, rfl, rfl, rfl, rfl, rfl, rfl, trivial⟩ ?_
                            refine ARH.dry (r := .sl (List.map G.api_Txn.av h_0.Txns)) rfl (fun _ => aop_load_pp rfl rfl sz22 rfl) ?_
                            refine ARH.dry (r := i64 (Sh.len h_0.Txns)) rfl (fun _ => t_len_sl G.api_Txn.av h_0.Txns rfl rfl el22) ?_
                            refine ARH.dry (r := bl (decide ((Sh.len h_0.Txns) ≤ x215.From))) rfl (fun _ => aop_geq rfl rfl rfl) ?_
                            refine ARH.drop (frx := [(1, _), (2, _), (5, _), (7, _), (8, _), (78, _), (79, _), (80, _), (83, _), (84, _), (85, _), (86, _), (87, _), (88, _), (89, _), (90, _), (91, _), (92, _), (93, _), (94, _), (95, _), (96, _), (99, _), (100, _), (101, _), (103, _), (104, _), (105, _), (106, _), (107, _), (108, _), (109, _)]) ⟨rfl, rfl, rfl, rfl, rfl, rfl, rfl, rfl, rfl, rfl, rfl, rfl, rfl, rfl, rfl, rfl, rfl, rfl, rfl, rfl, rfl, rfl, rfl, rfl, rfl, rfl, rfl, rfl, rfl, rfl, rfl, rfl, trivial⟩ ?_
                            refine ARH.dry (r := bl (decide ((Sh.len h_0.Txns) ≤ x215.From))) rfl (fun _ => aop_pick rfl rfl rfl) ?_
                            refine ARH.dry (r := bl (decide ((Sh.len h_0.Txns) ≤ x215.From))) rfl (fun _ => aop_move (.inl rfl) rfl) ?_
                            rcases Bool.eq_false_or_eq_true (decide ((Sh.len h_0.Txns) ≤ x215.From)) with hb255 | hb255
                            · rw [hb255]
                              replace h := Sh.if_t h hb255
                              refine ARH.skip rfl ?_
                              refine ARH.drop (frx := [(1, _), (2, _), (5, _), (7, _), (8, _), (78, _), (79, _), (80, _), (83, _), (84, _), (85, _), (86, _), (87, _), (88, _), (89, _), (90, _), (91, _), (92, _), (93, _), (94, _), (95, _), (96, _), (99, _), (100, _), (101, _), (104, _), (105, _), (106, _), (107, _), (108, _), (109, _), (111, _), (112, _)]) ⟨rfl, rfl, rfl, rfl, rfl, rfl, rfl, rfl, rfl, rfl, rfl, rfl, rfl, rfl, rfl, rfl, rfl, rfl, rfl, rfl, rfl, rfl, rfl, rfl, rfl, rfl, rfl, rfl, rfl, rfl, rfl, rfl, rfl, trivial⟩ ?_
                              refine ARH.skip rfl ?_
                              refine ARH.skip rfl ?_
                              refine ARH.skip rfl ?_
                              refine ARH.drop (frx := [(1, _), (2, _), (5, _), (7, _), (8, _), (78, _), (79, _), (80, _), (83, _), (84, _), (85, _), (86, _), (87, _), (88, _), (89, _), (90, _), (91, _), (92, _), (93, _), (94, _), (95, _), (96, _), (99, _), (100, _), (101, _), (104, _), (105, _), (106, _), (107, _), (108, _), (109, _), (111, _), (112, _), (113, _), (114, _), (115, _)]) ⟨rfl, rfl, rfl, rfl, rfl, rfl, rfl, rfl, rfl, rfl, rfl, rfl, rfl, rfl, rfl, rfl, rfl, rfl, rfl, rfl, rfl, rfl, rfl, rfl, rfl, rfl, rfl, rfl, rfl, rfl, rfl, rfl, rfl, rfl, rfl, rfl, trivial⟩ ?_
                              refine ARH.dry (r := bl true) rfl (fun _ => aop_pick rfl rfl rfl) ?_
                              refine ARH.nil ?_
                              exact hK19 true _ h (Weak.kp (fr' := [(1, i64 n_1), (2, .pp [.sl (List.map G.api_Txn.av h_0.Txns)] 0), (5, .pp [i64 x84.Session, .sl (List.map i64 x84.Writes), .sl (List.map G.api_Take.av x84.Reads)] 0), (7, i64 i195), (8, .pp [i64 x215.Key, i64 x215.From] 0), (116, bl true)]) ⟨rfl, rfl, rfl, rfl, rfl, rfl, trivial⟩)
                            · rw [hb255]
                              replace h := Sh.if_f h hb255
                              refine ARH.dry rfl (fun _ => aop_field_pp rfl rfl fd50_1 (by decide)) ?_
                              refine ARH.drop (frx := [(1, _), (2, _), (5, _), (7, _), (8, _), (78, _), (79, _), (80, _), (83, _), (84, _), (85, _), (86, _), (87, _), (88, _), (89, _), (90, _), (91, _), (92, _), (93, _), (94, _), (95, _), (96, _), (99, _), (100, _), (101, _), (104, _), (105, _), (106, _), (107, _), (108, _), (109, _), (111, _), (112, _)]) ⟨rfl, rfl, rfl, rfl, rfl, rfl, rfl, rfl, rfl, rfl, rfl, rfl, rfl, rfl, rfl, rfl, rfl, rfl, rfl, rfl, rfl, rfl, rfl, rfl, rfl, rfl, rfl, rfl, rfl, rfl, rfl, rfl, rfl, trivial⟩ ?_
                              refine ARH.dry (r := i64 x215.From) rfl (fun _ => aop_load_pp rfl rfl sz3 rfl) ?_
                              refine ARH.dry (r := i64 n_1) rfl (fun _ => aop_move (.inl rfl) rfl) ?_
                              refine ARH.dry (r := bl (decide (x215.From = n_1))) rfl (fun _ => aop_eql rfl rfl rfl) ?_
                              refine ARH.drop (frx := [(1, _), (2, _), (5, _), (7, _), (8, _), (78, _), (79, _), (80, _), (83, _), (84, _), (85, _), (86, _), (87, _), (88, _), (89, _), (90, _), (91, _), (92, _), (93, _), (94, _), (95, _), (96, _), (99, _), (100, _), (101, _), (104, _), (105, _), (106, _), (107, _), (108, _), (109, _), (111, _), (112, _), (113, _), (114, _), (115, _)]) ⟨rfl, rfl, rfl, rfl, rfl, rfl, rfl, rfl, rfl, rfl, rfl, rfl, rfl, rfl, rfl, rfl, rfl, rfl, rfl, rfl, rfl, rfl, rfl, rfl, rfl, rfl, rfl, rfl, rfl, rfl, rfl, rfl, rfl, rfl, rfl, rfl, trivial⟩ ?_
                              refine ARH.dry (r := bl (decide (x215.From = n_1))) rfl (fun _ => aop_pick rfl rfl rfl) ?_
                              refine ARH.nil ?_
                              exact hK19 (decide (x215.From = n_1)) _ h (Weak.re (fr' := [(1, i64 n_1), (2, .pp [.sl (List.map G.api_Txn.av h_0.Txns)] 0), (5, .pp [i64 x84.Session, .sl (List.map i64 x84.Writes), .sl (List.map G.api_Take.av x84.Reads)] 0), (7, i64 i195), (8, .pp [i64 x215.Key, i64 x215.From] 0), (116, bl (decide (x215.From = n_1)))]) (H' := .empty) [] [] rfl rfl rfl (trivial) ⟨⟨_, rfl, .same _ (by simp)⟩, ⟨_, rfl, .same _ (by simp)⟩, ⟨_, rfl, .same _ (by simp)⟩, ⟨_, rfl, .same _ (by simp)⟩, ⟨_, rfl, .same _ (by simp)⟩, ⟨_, rfl, .same _ (by simp)⟩, trivial⟩)
                      · rw [hb250]
                        replace h := Sh.if_f h hb250
                        refine ARH.skip rfl ?_
                        refine ARH.skip rfl ?_
                        refine ARH.skip rfl ?_
                        refine ARH.drop (frx := [(1, _), (2, _), (5, _), (7, _), (8, _), (78, _), (79, _), (80, _), (82, _), (83, _), (84, _), (85, _), (86, _), (87, _), (88, _)]) ⟨rfl, rfl, rfl, rfl, rfl, rfl, rfl, rfl, rfl, rfl, rfl, rfl, rfl, rfl, rfl, trivial⟩ ?_
                        refine ARH.skip rfl ?_
                        refine ARH.skip rfl ?_
                        refine ARH.skip rfl ?_
                        refine ARH.drop (frx := [(1, _), (2, _), (5, _), (7, _), (8, _), (78, _), (79, _), (80, _), (82, _), (83, _), (84, _), (85, _), (86, _), (87, _), (88, _), (89, _), (90, _), (91, _)]) ⟨rfl, rfl, rfl, rfl, rfl, rfl, rfl, rfl, rfl, rfl, rfl, rfl, rfl, rfl, rfl, rfl, rfl, rfl, trivial⟩ ?_
                        refine ARH.skip rfl ?_
                        refine ARH.skip rfl ?_
                        refine ARH.skip rfl ?_
                        refine ARH.drop (frx := [(1, _), (2, _), (5, _), (7, _), (8, _), (78, _), (79, _), (80, _), (82, _), (83, _), (84, _), (85, _), (86, _), (87, _), (88, _), (89, _), (90, _), (91, _), (92, _), (93, _), (94, _)]) ⟨rfl, rfl, rfl, rfl, rfl, rfl, rfl, rfl, rfl, rfl, rfl, rfl, rfl, rfl, rfl, rfl, rfl, rfl, rfl, rfl, rfl, trivial⟩ ?_
                        refine ARH.skip rfl ?_
                        refine ARH.dry (r := bl false) rfl (fun _ => aop_pick rfl rfl rfl) ?_
                        refine ARH.dry (r := bl false) rfl (fun _ => aop_pick rfl rfl rfl) ?_
                        refine ARH.drop (frx := [(1, _), (2, _), (5, _), (7, _), (8, _), (78, _), (79, _), (80, _), (83, _), (84, _), (85, _), (86, _), (87, _), (88, _), (89, _), (90, _), (91, _), (92, _), (93, _), (94, _), (95, _), (96, _), (97, _)]) ⟨rfl, rfl, rfl, rfl, rfl, rfl, rfl, rfl, rfl, rfl, rfl, rfl, rfl, rfl, rfl, rfl, rfl, rfl, rfl, rfl, rfl, rfl, rfl, trivial⟩ ?_
                        refine ARH.dry (r := bl false) rfl (fun _ => aop_move (.inl rfl) rfl) ?_
                        refine ARH.dry rfl (fun _ => aop_field_pp rfl rfl fd50_1 (by decide)) ?_
                        refine ARH.dry (r := i64 x215.From) rfl (fun _ => aop_load_pp rfl rfl sz3 rfl) ?_
                        refine ARH.drop (frx := [(1, _), (2, _), (5, _), (7, _), (8, _), (78, _), (79, _), (80, _), (83, _), (84, _), (85, _), (86, _), (87, _), (88, _), (89, _), (90, _), (91, _), (92, _), (93, _), (94, _), (95, _), (96, _), (98, _), (99, _), (100, _)]) ⟨rfl, rfl, rfl, rfl, rfl, rfl, rfl, rfl, rfl, rfl, rfl, rfl, rfl, rfl, rfl, rfl, rfl, rfl, rfl, rfl, rfl, rfl, rfl, rfl, rfl, trivial⟩ ?_
                        refine ARH.dry (r := bl (decide (x215.From < (-1)))) rfl (fun _ => aop_lss rfl rfl rfl) ?_
                        refine ARH.dry (r := bl (decide (x215.From < (-1)))) rfl (fun _ => aop_pick rfl rfl rfl) ?_
                        refine ARH.dry (r := bl (decide (x215.From < (-1)))) rfl (fun _ => aop_move (.inl rfl) rfl) ?_
                        refine ARH.drop (frx := [(1, _), (2, _), (5, _), (7, _), (8, _), (78, _), (79, _), (80, _), (83, _), (84, _), (85, _), (86, _), (87, _), (88, _), (89, _), (90, _), (91, _), (92, _), (93, _), (94, _), (95, _), (96, _), (99, _), (100, _), (101, _), (103, _)]) ⟨rfl, rfl, rfl, rfl, rfl, rfl, rfl, rfl, rfl, rfl, rfl, rfl, rfl, rfl, rfl, rfl, rfl, rfl, rfl, rfl, rfl, rfl, rfl, rfl, rfl, rfl, trivial⟩ ?_
                        rcases Bool.eq_false_or_eq_true (decide (x215.From < (-1))) with hb256 | hb256
                        · rw [hb256]
                          replace h := Sh.if_t h hb256
                          refine ARH.skip rfl ?_
                          refine ARH.skip rfl ?_
                          refine ARH.skip rfl ?_
                          refine ARH.drop (frx := [(1, _), (2, _), (5, _), (7, _), (8, _), (78, _), (79, _), (80, _), (83, _), (84, _), (85, _), (86, _), (87, _), (88, _), (89, _), (90, _), (91, _), (92, _), (93, _), (94, _), (95, _), (96, _), (99, _), (100, _), (101, _), (103, _), (104, _), (105, _), (106, _)]) ⟨rfl, rfl, rfl, rfl, rfl, rfl, rfl, rfl, rfl, rfl, rfl, rfl, rfl, rfl, rfl, rfl, rfl, rfl, rfl, rfl, rfl, rfl, rfl, rfl, rfl, rfl, rfl, rfl, rfl, trivial⟩ ?_
                          refine ARH.skip rfl ?_
                          refine ARH.skip rfl ?_
                          refine ARH.skip rfl ?_
                          refine ARH.drop (frx := [(1, _), (2, _), (5, _), (7, _), (8, _), (78, _), (79, _), (80, _), (83, _), (84, _), (85, _), (86, _), (87, _), (88, _), (89, _), (90, _), (91, _), (92, _), (93, _), (94, _), (95, _), (96, _), (99, _), (100, _), (101, _), (103, _), (104, _), (105, _), (106, _), (107, _), (108, _), (109, _)]) ⟨rfl, rfl, rfl, rfl, rfl, rfl, rfl, rfl, rfl, rfl, rfl, rfl, rfl, rfl, rfl, rfl, rfl, rfl, rfl, rfl, rfl, rfl, rfl, rfl, rfl, rfl, rfl, rfl, rfl, rfl, rfl, rfl, trivial⟩ ?_
                          refine ARH.dry (r := bl true) rfl (fun _ => aop_pick rfl rfl rfl) ?_
                          refine ARH.dry (r := bl true) rfl (fun _ => aop_move (.inl rfl) rfl) ?_
                          refine ARH.skip rfl ?_
                          refine ARH.drop (frx := [(1, _), (2, _), (5, _), (7, _), (8, _), (78, _), (79, _), (80, _), (83, _), (84, _), (85, _), (86, _), (87, _), (88, _), (89, _), (90, _), (91, _), (92, _), (93, _), (94, _), (95, _), (96, _), (99, _), (100, _), (101, _), (104, _), (105, _), (106, _), (107, _), (108, _), (109, _), (111, _), (112, _)]) ⟨rfl, rfl, rfl, rfl, rfl, rfl, rfl, rfl, rfl, rfl, rfl, rfl, rfl, rfl, rfl, rfl, rfl, rfl, rfl, rfl, rfl, rfl, rfl, rfl, rfl, rfl, rfl, rfl, rfl, rfl, rfl, rfl, rfl, trivial⟩ ?_
                          refine ARH.skip rfl ?_
                          refine ARH.skip rfl ?_
                          refine ARH.skip rfl ?_
                          refine ARH.drop (frx := [(1, _), (2, _), (5, _), (7, _), (8, _), (78, _), (79, _), (80, _), (83, _), (84, _), (85, _), (86, _), (87, _), (88, _), (89, _), (90, _), (91, _), (92, _), (93, _), (94, _), (95, _), (96, _), (99, _), (100, _), (101, _), (104, _), (105, _), (106, _), (107, _), (108, _), (109, _), (111, _), (112, _), (113, _), (114, _), (115, _)]) ⟨rfl, rfl, rfl, rfl, rfl, rfl, rfl, rfl, rfl, rfl, rfl, rfl, rfl, rfl, rfl, rfl, rfl, rfl, rfl, rfl, rfl, rfl, rfl, rfl, rfl, rfl, rfl, rfl, rfl, rfl, rfl, rfl, rfl, rfl, rfl, rfl, trivial⟩ ?_
                          refine ARH.dry (r := bl true) rfl (fun _ => aop_pick rfl rfl rfl) ?_
                          refine ARH.nil ?_
                          exact hK19 true _ h (Weak.kp (fr' := [(1, i64 n_1), (2, .pp [.sl (List.map G.api_Txn.av h_0.Txns)] 0), (5, .pp [i64 x84.Session, .sl (List.map i64 x84.Writes), .sl (List.map G.api_Take.av x84.Reads)] 0), (7, i64 i195), (8, .pp [i64 x215.Key, i64 x215.From] 0), (116, bl true)]) ⟨rfl, rfl, rfl, rfl, rfl, rfl, trivial⟩)
                        · rw [hb256]
                          replace h := Sh.if_f h hb256
                          refine ARH.dry rfl (fun _ => aop_field_pp rfl rfl fd50_1 (by decide)) ?_
                          refine ARH.dry (r := i64 x215.From) rfl (fun _ => aop_load_pp rfl rfl sz3 rfl) ?_
                          refine ARH.dry rfl (fun _ => aop_field_pp rfl rfl fd24_0 (by decide)) ?_
                          refine ARH.drop (frx := [(1, _), (2, _), (5, _), (7, _), (8, _), (78, _), (79, _), (80, _), (83, _), (84, _), (85, _), (86, _), (87, _), (88, _), (89, _), (90, _), (91, _), (92, _), (93, _), (94, _), (95, _), (96, _), (99, _), (100, _), (101, _), (103, _), (104, _), (105, _), (106, _)]) ⟨rfl, rfl, rfl, rfl, rfl, rfl, rfl, rfl, rfl, rfl, rfl, rfl, rfl, rfl, rfl, rfl, rfl, rfl, rfl, rfl, rfl, rfl, rfl, rfl, rfl, rfl, rfl, rfl, rfl, trivial⟩ ?_
                          refine ARH.dry (r := .sl (List.map G.api_Txn.av h_0.Txns)) rfl (fun _ => aop_load_pp rfl rfl sz22 rfl) ?_
                          refine ARH.dry (r := i64 (Sh.len h_0.Txns)) rfl (fun _ => t_len_sl G.api_Txn.av h_0.Txns rfl rfl el22) ?_
                          refine ARH.dry (r := bl (decide ((Sh.len h_0.Txns) ≤ x215.From))) rfl (fun _ => aop_geq rfl rfl rfl) ?_
                          refine ARH.drop (frx := [(1, _), (2, _), (5, _), (7, _), (8, _), (78, _), (79, _), (80, _), (83, _), (84, _), (85, _), (86, _), (87, _), (88, _), (89, _), (90, _), (91, _), (92, _), (93, _), (94, _), (95, _), (96, _), (99, _), (100, _), (101, _), (103, _), (104, _), (105, _), (106, _), (107, _), (108, _), (109, _)]) ⟨rfl, rfl, rfl, rfl, rfl, rfl, rfl, rfl, rfl, rfl, rfl, rfl, rfl, rfl, rfl, rfl, rfl, rfl, rfl, rfl, rfl, rfl, rfl, rfl, rfl, rfl, rfl, rfl, rfl, rfl, rfl, rfl, trivial⟩ ?_
                          refine ARH.dry (r := bl (decide ((Sh.len h_0.Txns) ≤ x215.From))) rfl (fun _ => aop_pick rfl rfl rfl) ?_
                          refine ARH.dry (r := bl (decide ((Sh.len h_0.Txns) ≤ x215.From))) rfl (fun _ => aop_move (.inl rfl) rfl) ?_
                          rcases Bool.eq_false_or_eq_true (decide ((Sh.len h_0.Txns) ≤ x215.From)) with hb257 | hb257
                          · rw [hb257]
                            replace h := Sh.if_t h hb257
                            refine ARH.skip rfl ?_
                            refine ARH.drop (frx := [(1, _), (2, _), (5, _), (7, _), (8, _), (78, _), (79, _), (80, _), (83, _), (84, _), (85, _), (86, _), (87, _), (88, _), (89, _), (90, _), (91, _), (92, _), (93, _), (94, _), (95, _), (96, _), (99, _), (100, _), (101, _), (104, _), (105, _), (106, _), (107, _), (108, _), (109, _), (111, _), (112, _)]) ⟨rfl, rfl, rfl, rfl, rfl, rfl, rfl, rfl, rfl, rfl, rfl, rfl, rfl, rfl, rfl, rfl, rfl, rfl, rfl, rfl, rfl, rfl, rfl, rfl, rfl, rfl, rfl, rfl, rfl, rfl, rfl, rfl, rfl, trivial⟩ ?_
                            refine ARH.skip rfl ?_
                            refine ARH.skip rfl ?_
                            refine ARH.skip rfl ?_
                            refine ARH.drop (frx := [(1, _), (2, _), (5, _), (7, _), (8, _), (78, _), (79, _), (80, _), (83, _), (84, _), (85, _), (86, _), (87, _), (88, _), (89, _), (90, _), (91, _), (92, _), (93, _), (94, _), (95, _), (96, _), (99, _), (100, _), (101, _), (104, _), (105, _), (106, _), (107, _), (108, _), (109, _), (111, _), (112, _), (113, _), (114, _), (115, _)]) ⟨rfl, rfl, rfl, rfl, rfl, rfl, rfl, rfl, rfl, rfl, rfl, rfl, rfl, rfl, rfl, rfl, rfl, rfl, rfl, rfl, rfl, rfl, rfl, rfl, rfl, rfl, rfl, rfl, rfl, rfl, rfl, rfl, rfl, rfl, rfl, rfl, trivial⟩ ?_
                            refine ARH.dry (r := bl true) rfl (fun _ => aop_pick rfl rfl rfl) ?_
                            refine ARH.nil ?_
                            exact hK19 true _ h (Weak.kp (fr' := [(1, i64 n_1), (2, .pp [.sl (List.map G.api_Txn.av h_0.Txns)] 0), (5, .pp [i64 x84.Session, .sl (List.map i64 x84.Writes), .sl (List.map G.api_Take.av x84.Reads)] 0), (7, i64 i195), (8, .pp [i64 x215.Key, i64 x215.From] 0), (116, bl true)]) ⟨rfl, rfl, rfl, rfl, rfl, rfl, trivial⟩)
                          · rw [hb257]
                            replace h := Sh.if_f h hb257
                            refine ARH.dry rfl (fun _ => aop_field_pp rfl rfl fd50_1 (by decide)) ?_
                            refine ARH.drop (frx := [(1, _), (2, _), (5, _), (7, _), (8, _), (78, _), (79, _), (80, _), (83, _), (84, _), (85, _), (86, _), (87, _), (88, _), (89, _), (90, _), (91, _), (92, _), (93, _), (94, _), (95, _), (96, _), (99, _), (100, _), (101, _), (104, _), (105, _), (106, _), (107, _), (108, _), (109, _), (111, _), (112, _)]) ⟨rfl, rfl, rfl, rfl, rfl, rfl, rfl, rfl, rfl, rfl, rfl, rfl, rfl, rfl, rfl, rfl, rfl, rfl, rfl, rfl, rfl, rfl, rfl, rfl, rfl, rfl, rfl, rfl, rfl, rfl, rfl, rfl, rfl, trivial⟩ ?_
                            refine ARH.dry (r := i64 x215.From) rfl (fun _ => aop_load_pp rfl rfl sz3 rfl) ?_
                            refine ARH.dry (r := i64 n_1) rfl (fun _ => aop_move (.inl rfl) rfl) ?_
                            refine ARH.dry (r := bl (decide (x215.From = n_1))) rfl (fun _ => aop_eql rfl rfl rfl) ?_
                            refine ARH.drop (frx := [(1, _), (2, _), (5, _), (7, _), (8, _), (78, _), (79, _), (80, _), (83, _), (84, _), (85, _), (86, _), (87, _), (88, _), (89, _), (90, _), (91, _), (92, _), (93, _), (94, _), (95, _), (96, _), (99, _), (100, _), (101, _), (104, _), (105, _), (106, _), (107, _), (108, _), (109, _), (111, _), (112, _), (113, _), (114, _), (115, _)]) ⟨rfl, rfl, rfl, rfl, rfl, rfl, rfl, rfl, rfl, rfl, rfl, rfl, rfl, rfl, rfl, rfl, rfl, rfl, rfl, rfl, rfl, rfl, rfl, rfl, rfl, rfl, rfl, rfl, rfl, rfl, rfl, rfl, rfl, rfl, rfl, rfl, trivial⟩ ?_
                            refine ARH.dry (r := bl (decide (x215.From = n_1))) rfl (fun _ => aop_pick rfl rfl rfl) ?_
                            refine ARH.nil ?_
                            exact hK19 (decide (x215.From = n_1)) _ h (Weak.re (fr' := [(1, i64 n_1), (2, .pp [.sl (List.map G.api_Txn.av h_0.Txns)] 0), (5, .pp [i64 x84.Session, .sl (List.map i64 x84.Writes), .sl (List.map G.api_Take.av x84.Reads)] 0), (7, i64 i195), (8, .pp [i64 x215.Key, i64 x215.From] 0), (116, bl (decide (x215.From = n_1)))]) (H' := .empty) [] [] rfl rfl rfl (trivial) ⟨⟨_, rfl, .same _ (by simp)⟩, ⟨_, rfl, .same _ (by simp)⟩, ⟨_, rfl, .same _ (by simp)⟩, ⟨_, rfl, .same _ (by simp)⟩, ⟨_, rfl, .same _ (by simp)⟩, ⟨_, rfl, .same _ (by simp)⟩, trivial⟩)
            · replace h := Sh.if_f h hb196
              refine awp_exit ?_
              replace h := Sh.exit_eq h hx1
              exact hK6 () _ h (Weak.kp (fr' := []) trivial)
      · intro K20 hK20
        refine awp_seqK fun K21 hK21 => ?_
        refine awp_reg rfl ?_
        refine AR.op (r := i64 0) rfl (aop_move (.inr rfl) rfl) ?_
        refine AR.nil ?_
        refine hK21 _ ?_
        clear hK21 K21
        refine awp_block ?_
        refine awp_iter (fun (p : Int) => G.inquestref08_one_b2 h_0 n_1 x84 p) (fun (p : Int) => (⟨[(1, i64 n_1), (2, .pp [.sl (List.map G.api_Txn.av h_0.Txns)] 0), (5, .pp [i64 x84.Session, .sl (List.map i64 x84.Writes), .sl (List.map G.api_Take.av x84.Reads)] 0), (6, i64 p)], .empty⟩ : St)) h (Weak.kp (fr' := [(1, i64 n_1), (2, .pp [.sl (List.map G.api_Txn.av h_0.Txns)] 0), (5, .pp [i64 x84.Session, .sl (List.map i64 x84.Writes), .sl (List.map G.api_Take.av x84.Reads)] 0), (6, i64 0)]) ⟨rfl, rfl, rfl, rfl, trivial⟩) ?_
        · skip
          rintro i278 o2 h hx2
          replace h : G.inquestref08_one_b2 h_0 n_1 x84 i278 = some o2 := h
          unfold G.inquestref08_one_b2 at h
          show AWP _ _ _ _ ⟨[(1, i64 n_1), (2, .pp [.sl (List.map G.api_Txn.av h_0.Txns)] 0), (5, .pp [i64 x84.Session, .sl (List.map i64 x84.Writes), .sl (List.map G.api_Take.av x84.Reads)] 0), (6, i64 i278)], .empty⟩ _
          refine awp_seqK fun K22 hK22 => ?_
          refine awp_seqK fun K23 hK23 => ?_
          refine awp_reg rfl ?_
          refine AR.op (r := i64 i278) rfl (aop_move (.inl rfl) rfl) ?_
          refine AR.op rfl (aop_field_pp rfl rfl fd47_1 (by decide)) ?_
          refine AR.op (r := .sl (List.map i64 x84.Writes)) rfl (aop_load_pp rfl rfl sz26 rfl) ?_
          refine AR.drop (frx := [(1, _), (2, _), (5, _), (6, _), (23, _), (25, _)]) ⟨rfl, rfl, rfl, rfl, rfl, rfl, trivial⟩ ?_
          refine AR.op (r := i64 (Sh.len x84.Writes)) rfl (t_len_sl i64 x84.Writes rfl rfl el26) ?_
          refine AR.op (r := bl (decide (i278 < (Sh.len x84.Writes)))) rfl (aop_lss rfl rfl rfl) ?_
          refine AR.nil ?_
          refine hK23 _ (AWP.weak (Weak.kp (fr' := [(1, i64 n_1), (2, .pp [.sl (List.map G.api_Txn.av h_0.Txns)] 0), (5, .pp [i64 x84.Session, .sl (List.map i64 x84.Writes), .sl (List.map G.api_Take.av x84.Reads)] 0), (6, i64 i278), (27, bl (decide (i278 < (Sh.len x84.Writes))))]) ⟨rfl, rfl, rfl, rfl, rfl, trivial⟩) ?_)
          clear hK23 K23
          refine awp_cond rfl (fun hb279 => ?_) (fun hb279 => ?_)
          · replace h := Sh.if_t h hb279
            refine awp_skip ?_
            refine hK22 _ (AWP.weak (Weak.kp (fr' := [(1, i64 n_1), (2, .pp [.sl (List.map G.api_Txn.av h_0.Txns)] 0), (5, .pp [i64 x84.Session, .sl (List.map i64 x84.Writes), .sl (List.map G.api_Take.av x84.Reads)] 0), (6, i64 i278)]) ⟨rfl, rfl, rfl, rfl, trivial⟩) ?_)
            clear hK22 K22
            refine awp_seqK fun K24 hK24 => ?_
            refine awp_block ?_
            refine awp_seqJ (fun (p : Bool) => (⟨[(1, i64 n_1), (2, .pp [.sl (List.map G.api_Txn.av h_0.Txns)] 0), (5, .pp [i64 x84.Session, .sl (List.map i64 x84.Writes), .sl (List.map G.api_Take.av x84.Reads)] 0), (6, i64 i278), (61, bl p)], .empty⟩ : St)) (fun (p : Bool) => G.inquestref08_one_j6 i278 p = some o2) ?_ ?_
            · rintro v303 h
              replace h : G.inquestref08_one_j6 i278 v303 = some o2 := h
              unfold G.inquestref08_one_j6 at h
              show AWP _ _ _ _ ⟨[(1, i64 n_1), (2, .pp [.sl (List.map G.api_Txn.av h_0.Txns)] 0), (5, .pp [i64 x84.Session, .sl (List.map i64 x84.Writes), .sl (List.map G.api_Take.av x84.Reads)] 0), (6, i64 i278), (61, bl v303)], .empty⟩ _
              refine awp_cond rfl (fun hb304 => ?_) (fun hb304 => ?_)
              · replace h := Sh.if_t h hb304
                refine awp_seqK fun K25 hK25 => ?_
                refine awp_reg rfl ?_
                refine AR.op (r := bl false) rfl (aop_move (.inr rfl) rfl) ?_
                refine AR.nil ?_
                refine hK25 _ (AWP.weak (Weak.kp (fr' := [(4, bl false)]) ⟨rfl, trivial⟩) ?_)
                clear hK25 K25
                refine awp_ret ?_
                replace h := Sh.exit_eq h hx2
                obtain rfl := Option.some.inj h
                refine ⟨.inr rfl, bl false, rfl, ?_⟩
                exact Weak.re [] [] rfl rfl rfl (trivial) ⟨⟨_, rfl, .same _ (by simp)⟩, trivial⟩
              · replace h := Sh.if_f h hb304
                refine awp_skip ?_
                refine hK24 _ (AWP.weak (Weak.kp (fr' := [(1, i64 n_1), (2, .pp [.sl (List.map G.api_Txn.av h_0.Txns)] 0), (5, .pp [i64 x84.Session, .sl (List.map i64 x84.Writes), .sl (List.map G.api_Take.av x84.Reads)] 0), (6, i64 i278)]) ⟨rfl, rfl, rfl, rfl, trivial⟩) ?_)
                clear hK24 K24
                refine awp_reg rfl ?_
                refine AR.op (r := i64 i278) rfl (aop_move (.inl rfl) rfl) ?_
                refine AR.op (r := i64 (w64 (i278 + 1))) rfl (aop_add rfl rfl rfl rfl) ?_
                refine AR.op (r := i64 (w64 (i278 + 1))) rfl (aop_move (.inr rfl) rfl) ?_
                refine AR.nil ?_
                replace h := Sh.next_eq h
                exact ⟨_, h, Weak.re (fr' := [(1, i64 n_1), (2, .pp [.sl (List.map G.api_Txn.av h_0.Txns)] 0), (5, .pp [i64 x84.Session, .sl (List.map i64 x84.Writes), .sl (List.map G.api_Take.av x84.Reads)] 0), (6, i64 (w64 (i278 + 1)))]) (H' := .empty) [] [] rfl rfl rfl (trivial) ⟨⟨_, rfl, .same _ (by simp)⟩, ⟨_, rfl, .same _ (by simp)⟩, ⟨_, rfl, .same _ (by simp)⟩, ⟨_, rfl, .same _ (by simp)⟩, trivial⟩⟩
            · intro K26 hK26
              refine awp_any [(true, false), (true, false), (true, false), (true, false), (true, false), (true, false), (true, false), (true, false), (true, false), (true, false), (true, false), (true, false), (true, false), (true, false), (true, false), (true, false), (true, false), (true, false), (true, false), (true, false), (true, false), (true, false), (true, false), (true, false), (true, false), (true, false), (true, false), (true, false), (true, false), (true, false), (true, false), (true, false)] (by kernel_rfl) (by kernel_rfl) rfl ?_
              refine ARH.dry rfl (fun _ => aop_field_pp rfl rfl fd47_1 (by decide)) ?_
              refine ARH.dry (r := .sl (List.map i64 x84.Writes)) rfl (fun _ => aop_load_pp rfl rfl sz26 rfl) ?_
              refine ARH.dry (r := i64 i278) rfl (fun _ => aop_move (.inl rfl) rfl) ?_
              refine ARH.drop (frx := [(1, _), (2, _), (5, _), (6, _), (31, _), (32, _)]) ⟨rfl, rfl, rfl, rfl, rfl, rfl, trivial⟩ ?_
              obtain ⟨x305, hx305, h⟩ := Sh.bind_some' h
              obtain ⟨k306, hi306, hl306⟩ := Sh.idx_some hx305
              refine ARH.dry rfl (fun _ => t_index_sl i64 x84.Writes hi306 hl306 rfl rfl rfl el26 rfl) ?_
              refine ARH.dry (r := i64 x305) rfl (fun _ => aop_load_pp rfl rfl sz3 rfl) ?_
              refine ARH.dry (r := bl (decide (x305 < 0))) rfl (fun _ => aop_lss rfl rfl rfl) ?_
              refine ARH.drop (frx := [(1, _), (2, _), (5, _), (6, _), (35, _)]) ⟨rfl, rfl, rfl, rfl, rfl, trivial⟩ ?_
              refine ARH.dry (r := bl (decide (x305 < 0))) rfl (fun _ => aop_move (.inl rfl) rfl) ?_
              rcases Bool.eq_false_or_eq_true (decide (x305 < 0)) with hb307 | hb307
              · rw [hb307]
                replace h := Sh.if_t h hb307
                refine ARH.skip rfl ?_
                refine ARH.skip rfl ?_
                refine ARH.drop (frx := [(1, _), (2, _), (5, _), (6, _), (36, _), (37, _), (38, _)]) ⟨rfl, rfl, rfl, rfl, rfl, rfl, rfl, trivial⟩ ?_
                refine ARH.skip rfl ?_
                refine ARH.skip rfl ?_
                refine ARH.skip rfl ?_
                refine ARH.drop (frx := [(1, _), (2, _), (5, _), (6, _), (36, _), (37, _), (38, _), (39, _), (40, _), (41, _)]) ⟨rfl, rfl, rfl, rfl, rfl, rfl, rfl, rfl, rfl, rfl, trivial⟩ ?_
                refine ARH.skip rfl ?_
                refine ARH.dry (r := bl true) rfl (fun _ => aop_pick rfl rfl rfl) ?_
                refine ARH.dry (r := bl true) rfl (fun _ => aop_move (.inl rfl) rfl) ?_
                refine ARH.drop (frx := [(1, _), (2, _), (5, _), (6, _), (37, _), (38, _), (39, _), (40, _), (41, _), (42, _), (44, _)]) ⟨rfl, rfl, rfl, rfl, rfl, rfl, rfl, rfl, rfl, rfl, rfl, trivial⟩ ?_
                refine ARH.skip rfl ?_
                refine ARH.skip rfl ?_
                refine ARH.skip rfl ?_
                refine ARH.drop (frx := [(1, _), (2, _), (5, _), (6, _), (37, _), (38, _), (39, _), (40, _), (41, _), (42, _), (44, _), (45, _), (46, _), (47, _)]) ⟨rfl, rfl, rfl, rfl, rfl, rfl, rfl, rfl, rfl, rfl, rfl, rfl, rfl, rfl, trivial⟩ ?_
                refine ARH.skip rfl ?_
                refine ARH.skip rfl ?_
                refine ARH.skip rfl ?_
                refine ARH.drop (frx := [(1, _), (2, _), (5, _), (6, _), (37, _), (38, _), (39, _), (40, _), (41, _), (42, _), (44, _), (45, _), (46, _), (47, _), (48, _), (49, _), (50, _)]) ⟨rfl, rfl, rfl, rfl, rfl, rfl, rfl, rfl, rfl, rfl, rfl, rfl, rfl, rfl, rfl, rfl, rfl, trivial⟩ ?_
                refine ARH.skip rfl ?_
                refine ARH.skip rfl ?_
                refine ARH.skip rfl ?_
                refine ARH.drop (frx := [(1, _), (2, _), (5, _), (6, _), (37, _), (38, _), (39, _), (40, _), (41, _), (42, _), (44, _), (45, _), (46, _), (47, _), (48, _), (49, _), (50, _), (51, _), (52, _), (53, _)]) ⟨rfl, rfl, rfl, rfl, rfl, rfl, rfl, rfl, rfl, rfl, rfl, rfl, rfl, rfl, rfl, rfl, rfl, rfl, rfl, rfl, trivial⟩ ?_
                refine ARH.skip rfl ?_
                refine ARH.skip rfl ?_
                refine ARH.skip rfl ?_
                refine ARH.drop (frx := [(1, _), (2, _), (5, _), (6, _), (37, _), (38, _), (39, _), (40, _), (41, _), (42, _), (44, _), (45, _), (46, _), (47, _), (48, _), (49, _), (50, _), (51, _), (52, _), (53, _), (54, _), (55, _), (56, _)]) ⟨rfl, rfl, rfl, rfl, rfl, rfl, rfl, rfl, rfl, rfl, rfl, rfl, rfl, rfl, rfl, rfl, rfl, rfl, rfl, rfl, rfl, rfl, rfl, trivial⟩ ?_
                refine ARH.skip rfl ?_
                refine ARH.skip rfl ?_
                refine ARH.skip rfl ?_
                refine ARH.drop (frx := [(1, _), (2, _), (5, _), (6, _), (37, _), (38, _), (39, _), (40, _), (41, _), (42, _), (44, _), (45, _), (46, _), (47, _), (48, _), (49, _), (50, _), (51, _), (52, _), (53, _), (54, _), (55, _), (56, _), (57, _), (58, _), (59, _)]) ⟨rfl, rfl, rfl, rfl, rfl, rfl, rfl, rfl, rfl, rfl, rfl, rfl, rfl, rfl, rfl, rfl, rfl, rfl, rfl, rfl, rfl, rfl, rfl, rfl, rfl, rfl, trivial⟩ ?_
                refine ARH.skip rfl ?_
                refine ARH.dry (r := bl true) rfl (fun _ => aop_pick rfl rfl rfl) ?_
                refine ARH.nil ?_
                exact hK26 true _ h (Weak.kp (fr' := [(1, i64 n_1), (2, .pp [.sl (List.map G.api_Txn.av h_0.Txns)] 0), (5, .pp [i64 x84.Session, .sl (List.map i64 x84.Writes), .sl (List.map G.api_Take.av x84.Reads)] 0), (6, i64 i278), (61, bl true)]) ⟨rfl, rfl, rfl, rfl, rfl, trivial⟩)
              · rw [hb307]
                replace h := Sh.if_f h hb307
                refine ARH.dry rfl (fun _ => aop_field_pp rfl rfl fd47_1 (by decide)) ?_
                refine ARH.dry (r := .sl (List.map i64 x84.Writes)) rfl (fun _ => aop_load_pp rfl rfl sz26 rfl) ?_
                refine ARH.drop (frx := [(1, _), (2, _), (5, _), (6, _), (36, _), (37, _), (38, _)]) ⟨rfl, rfl, rfl, rfl, rfl, rfl, rfl, trivial⟩ ?_
                refine ARH.dry (r := i64 i278) rfl (fun _ => aop_move (.inl rfl) rfl) ?_
                obtain ⟨x308, hx308, h⟩ := Sh.bind_some' h
                obtain ⟨k309, hi309, hl309⟩ := Sh.idx_some hx308
                refine ARH.dry rfl (fun _ => t_index_sl i64 x84.Writes hi309 hl309 rfl rfl rfl el26 rfl) ?_
                refine ARH.dry (r := i64 x308) rfl (fun _ => aop_load_pp rfl rfl sz3 rfl) ?_
                refine ARH.drop (frx := [(1, _), (2, _), (5, _), (6, _), (36, _), (37, _), (38, _), (39, _), (40, _), (41, _)]) ⟨rfl, rfl, rfl, rfl, rfl, rfl, rfl, rfl, rfl, rfl, trivial⟩ ?_
                refine ARH.dry (r := bl (decide ((15 : Int) < x308))) rfl (fun _ => aop_gtr rfl rfl rfl) ?_
                refine ARH.dry (r := bl (decide ((15 : Int) < x308))) rfl (fun _ => aop_pick rfl rfl rfl) ?_
                refine ARH.dry (r := bl (decide ((15 : Int) < x308))) rfl (fun _ => aop_move (.inl rfl) rfl) ?_
                refine ARH.drop (frx := [(1, _), (2, _), (5, _), (6, _), (37, _), (38, _), (39, _), (40, _), (41, _), (42, _), (44, _)]) ⟨rfl, rfl, rfl, rfl, rfl, rfl, rfl, rfl, rfl, rfl, rfl, trivial⟩ ?_
                rcases Bool.eq_false_or_eq_true (decide ((15 : Int) < x308)) with hb310 | hb310
                · rw [hb310]
                  replace h := Sh.if_t h hb310
                  refine ARH.skip rfl ?_
                  refine ARH.skip rfl ?_
                  refine ARH.skip rfl ?_
                  refine ARH.drop (frx := [(1, _), (2, _), (5, _), (6, _), (37, _), (38, _), (39, _), (40, _), (41, _), (42, _), (44, _), (45, _), (46, _), (47, _)]) ⟨rfl, rfl, rfl, rfl, rfl, rfl, rfl, rfl, rfl, rfl, rfl, rfl, rfl, rfl, trivial⟩ ?_
                  refine ARH.skip rfl ?_
                  refine ARH.skip rfl ?_
                  refine ARH.skip rfl ?_
                  refine ARH.drop (frx := [(1, _), (2, _), (5, _), (6, _), (37, _), (38, _), (39, _), (40, _), (41, _), (42, _), (44, _), (45, _), (46, _), (47, _), (48, _), (49, _), (50, _)]) ⟨rfl, rfl, rfl, rfl, rfl, rfl, rfl, rfl, rfl, rfl, rfl, rfl, rfl, rfl, rfl, rfl, rfl, trivial⟩ ?_
                  refine ARH.skip rfl ?_
                  refine ARH.skip rfl ?_
                  refine ARH.skip rfl ?_
                  refine ARH.drop (frx := [(1, _), (2, _), (5, _), (6, _), (37, _), (38, _), (39, _), (40, _), (41, _), (42, _), (44, _), (45, _), (46, _), (47, _), (48, _), (49, _), (50, _), (51, _), (52, _), (53, _)]) ⟨rfl, rfl, rfl, rfl, rfl, rfl, rfl, rfl, rfl, rfl, rfl, rfl, rfl, rfl, rfl, rfl, rfl, rfl, rfl, rfl, trivial⟩ ?_
                  refine ARH.skip rfl ?_
                  refine ARH.skip rfl ?_
                  refine ARH.skip rfl ?_
                  refine ARH.drop (frx := [(1, _), (2, _), (5, _), (6, _), (37, _), (38, _), (39, _), (40, _), (41, _), (42, _), (44, _), (45, _), (46, _), (47, _), (48, _), (49, _), (50, _), (51, _), (52, _), (53, _), (54, _), (55, _), (56, _)]) ⟨rfl, rfl, rfl, rfl, rfl, rfl, rfl, rfl, rfl, rfl, rfl, rfl, rfl, rfl, rfl, rfl, rfl, rfl, rfl, rfl, rfl, rfl, rfl, trivial⟩ ?_
                  refine ARH.skip rfl ?_
                  refine ARH.skip rfl ?_
                  refine ARH.skip rfl ?_
                  refine ARH.drop (frx := [(1, _), (2, _), (5, _), (6, _), (37, _), (38, _), (39, _), (40, _), (41, _), (42, _), (44, _), (45, _), (46, _), (47, _), (48, _), (49, _), (50, _), (51, _), (52, _), (53, _), (54, _), (55, _), (56, _), (57, _), (58, _), (59, _)]) ⟨rfl, rfl, rfl, rfl, rfl, rfl, rfl, rfl, rfl, rfl, rfl, rfl, rfl, rfl, rfl, rfl, rfl, rfl, rfl, rfl, rfl, rfl, rfl, rfl, rfl, rfl, trivial⟩ ?_
                  refine ARH.skip rfl ?_
                  refine ARH.dry (r := bl true) rfl (fun _ => aop_pick rfl rfl rfl) ?_
                  refine ARH.nil ?_
                  exact hK26 true _ h (Weak.kp (fr' := [(1, i64 n_1), (2, .pp [.sl (List.map G.api_Txn.av h_0.Txns)] 0), (5, .pp [i64 x84.Session, .sl (List.map i64 x84.Writes), .sl (List.map G.api_Take.av x84.Reads)] 0), (6, i64 i278), (61, bl true)]) ⟨rfl, rfl, rfl, rfl, rfl, trivial⟩)
                · rw [hb310]
                  replace h := Sh.if_f h hb310
                  refine ARH.dry (r := i64 i278) rfl (fun _ => aop_move (.inl rfl) rfl) ?_
                  refine ARH.dry (r := bl (decide ((0 : Int) < i278))) rfl (fun _ => aop_gtr rfl rfl rfl) ?_
                  refine ARH.dry (r := bl (decide ((0 : Int) < i278))) rfl (fun _ => aop_move (.inl rfl) rfl) ?_
                  refine ARH.drop (frx := [(1, _), (2, _), (5, _), (6, _), (37, _), (38, _), (39, _), (40, _), (41, _), (42, _), (44, _), (45, _), (46, _), (47, _)]) ⟨rfl, rfl, rfl, rfl, rfl, rfl, rfl, rfl, rfl, rfl, rfl, rfl, rfl, rfl, trivial⟩ ?_
                  rcases Bool.eq_false_or_eq_true (decide ((0 : Int) < i278)) with hb311 | hb311
                  · rw [hb311]
                    replace h := Sh.if_t h hb311
                    refine ARH.dry rfl (fun _ => aop_field_pp rfl rfl fd47_1 (by decide)) ?_
                    refine ARH.dry (r := .sl (List.map i64 x84.Writes)) rfl (fun _ => aop_load_pp rfl rfl sz26 rfl) ?_
                    refine ARH.dry (r := i64 i278) rfl (fun _ => aop_move (.inl rfl) rfl) ?_
                    refine ARH.drop (frx := [(1, _), (2, _), (5, _), (6, _), (37, _), (38, _), (39, _), (40, _), (41, _), (42, _), (44, _), (45, _), (46, _), (47, _), (48, _), (49, _), (50, _)]) ⟨rfl, rfl, rfl, rfl, rfl, rfl, rfl, rfl, rfl, rfl, rfl, rfl, rfl, rfl, rfl, rfl, rfl, trivial⟩ ?_
                    refine ARH.dry (r := i64 (w64 (i278 - 1))) rfl (fun _ => aop_sub rfl rfl rfl rfl) ?_
                    obtain ⟨x312, hx312, h⟩ := Sh.bind_some' h
                    obtain ⟨k313, hi313, hl313⟩ := Sh.idx_some hx312
                    refine ARH.dry rfl (fun _ => t_index_sl i64 x84.Writes hi313 hl313 rfl rfl rfl el26 rfl) ?_
                    refine ARH.dry (r := i64 x312) rfl (fun _ => aop_load_pp rfl rfl sz3 rfl) ?_
                    refine ARH.drop (frx := [(1, _), (2, _), (5, _), (6, _), (37, _), (38, _), (39, _), (40, _), (41, _), (42, _), (44, _), (45, _), (46, _), (47, _), (48, _), (49, _), (50, _), (51, _), (52, _), (53, _)]) ⟨rfl, rfl, rfl, rfl, rfl, rfl, rfl, rfl, rfl, rfl, rfl, rfl, rfl, rfl, rfl, rfl, rfl, rfl, rfl, rfl, trivial⟩ ?_
                    refine ARH.dry rfl (fun _ => aop_field_pp rfl rfl fd47_1 (by decide)) ?_
                    refine ARH.dry (r := .sl (List.map i64 x84.Writes)) rfl (fun _ => aop_load_pp rfl rfl sz26 rfl) ?_
                    refine ARH.dry (r := i64 i278) rfl (fun _ => aop_move (.inl rfl) rfl) ?_
                    refine ARH.drop (frx := [(1, _), (2, _), (5, _), (6, _), (37, _), (38, _), (39, _), (40, _), (41, _), (42, _), (44, _), (45, _), (46, _), (47, _), (48, _), (49, _), (50, _), (51, _), (52, _), (53, _), (54, _), (55, _), (56, _)]) ⟨rfl, rfl, rfl, rfl, rfl, rfl, rfl, rfl, rfl, rfl, rfl, rfl, rfl, rfl, rfl, rfl, rfl, rfl, rfl, rfl, rfl, rfl, rfl, trivial⟩ ?_
                    obtain ⟨x314, hx314, h⟩ := Sh.bind_some' h
                    obtain ⟨k315, hi315, hl315⟩ := Sh.idx_some hx314
                    refine ARH.dry rfl (fun _ => t_index_sl i64 x84.Writes hi315 hl315 rfl rfl rfl el26 rfl) ?_
                    refine ARH.dry (r := i64 x314) rfl (fun _ => aop_load_pp rfl rfl sz3 rfl) ?_
                    refine ARH.dry (r := bl (decide (x314 ≤ x312))) rfl (fun _ => aop_geq rfl rfl rfl) ?_
                    refine ARH.drop (frx := [(1, _), (2, _), (5, _), (6, _), (37, _), (38, _), (39, _), (40, _), (41, _), (42, _), (44, _), (45, _), (46, _), (47, _), (48, _), (49, _), (50, _), (51, _), (52, _), (53, _), (54, _), (55, _), (56, _), (57, _), (58, _), (59, _)]) ⟨rfl, rfl, rfl, rfl, rfl, rfl, rfl, rfl, rfl, rfl, rfl, rfl, rfl, rfl, rfl, rfl, rfl, rfl, rfl, rfl, rfl, rfl, rfl, rfl, rfl, rfl, trivial⟩ ?_
                    refine ARH.dry (r := bl (decide (x314 ≤ x312))) rfl (fun _ => aop_pick rfl rfl rfl) ?_
                    refine ARH.dry (r := bl (decide (x314 ≤ x312))) rfl (fun _ => aop_pick rfl rfl rfl) ?_
                    refine ARH.nil ?_
                    exact hK26 (decide (x314 ≤ x312)) _ h (Weak.re (fr' := [(1, i64 n_1), (2, .pp [.sl (List.map G.api_Txn.av h_0.Txns)] 0), (5, .pp [i64 x84.Session, .sl (List.map i64 x84.Writes), .sl (List.map G.api_Take.av x84.Reads)] 0), (6, i64 i278), (61, bl (decide (x314 ≤ x312)))]) (H' := .empty) [] [] rfl rfl rfl (trivial) ⟨⟨_, rfl, .same _ (by simp)⟩, ⟨_, rfl, .same _ (by simp)⟩, ⟨_, rfl, .same _ (by simp)⟩, ⟨_, rfl, .same _ (by simp)⟩, ⟨_, rfl, .same _ (by simp)⟩, trivial⟩)
                  · rw [hb311]
                    replace h := Sh.if_f h hb311
                    refine ARH.skip rfl ?_
                    refine ARH.skip rfl ?_
                    refine ARH.skip rfl ?_
                    refine ARH.drop (frx := [(1, _), (2, _), (5, _), (6, _), (37, _), (38, _), (39, _), (40, _), (41, _), (42, _), (44, _), (45, _), (46, _), (47, _), (48, _), (49, _), (50, _)]) ⟨rfl, rfl, rfl, rfl, rfl, rfl, rfl, rfl, rfl, rfl, rfl, rfl, rfl, rfl, rfl, rfl, rfl, trivial⟩ ?_
                    refine ARH.skip rfl ?_
                    refine ARH.skip rfl ?_
                    refine ARH.skip rfl ?_
                    refine ARH.drop (frx := [(1, _), (2, _), (5, _), (6, _), (37, _), (38, _), (39, _), (40, _), (41, _), (42, _), (44, _), (45, _), (46, _), (47, _), (48, _), (49, _), (50, _), (51, _), (52, _), (53, _)]) ⟨rfl, rfl, rfl, rfl, rfl, rfl, rfl, rfl, rfl, rfl, rfl, rfl, rfl, rfl, rfl, rfl, rfl, rfl, rfl, rfl, trivial⟩ ?_
                    refine ARH.skip rfl ?_
                    refine ARH.skip rfl ?_
                    refine ARH.skip rfl ?_
                    refine ARH.drop (frx := [(1, _), (2, _), (5, _), (6, _), (37, _), (38, _), (39, _), (40, _), (41, _), (42, _), (44, _), (45, _), (46, _), (47, _), (48, _), (49, _), (50, _), (51, _), (52, _), (53, _), (54, _), (55, _), (56, _)]) ⟨rfl, rfl, rfl, rfl, rfl, rfl, rfl, rfl, rfl, rfl, rfl, rfl, rfl, rfl, rfl, rfl, rfl, rfl, rfl, rfl, rfl, rfl, rfl, trivial⟩ ?_
                    refine ARH.skip rfl ?_
                    refine ARH.skip rfl ?_
                    refine ARH.skip rfl ?_
                    refine ARH.drop (frx := [(1, _), (2, _), (5, _), (6, _), (37, _), (38, _), (39, _), (40, _), (41, _), (42, _), (44, _), (45, _), (46, _), (47, _), (48, _), (49, _), (50, _), (51, _), (52, _), (53, _), (54, _), (55, _), (56, _), (57, _), (58, _), (59, _)]) ⟨rfl, rfl, rfl, rfl, rfl, rfl, rfl, rfl, rfl, rfl, rfl, rfl, rfl, rfl, rfl, rfl, rfl, rfl, rfl, rfl, rfl, rfl, rfl, rfl, rfl, rfl, trivial⟩ ?_
                    refine ARH.dry (r := bl false) rfl (fun _ => aop_pick rfl rfl rfl) ?_
                    refine ARH.dry (r := bl false) rfl (fun _ => aop_pick rfl rfl rfl) ?_
                    refine ARH.nil ?_
                    exact hK26 false _ h (Weak.kp (fr' := [(1, i64 n_1), (2, .pp [.sl (List.map G.api_Txn.av h_0.Txns)] 0), (5, .pp [i64 x84.Session, .sl (List.map i64 x84.Writes), .sl (List.map G.api_Take.av x84.Reads)] 0), (6, i64 i278), (61, bl false)]) ⟨rfl, rfl, rfl, rfl, rfl, trivial⟩)
          · replace h := Sh.if_f h hb279
            refine awp_exit ?_
            replace h := Sh.exit_eq h hx2
            exact hK20 () _ h (Weak.kp (fr' := [(1, i64 n_1), (2, .pp [.sl (List.map G.api_Txn.av h_0.Txns)] 0), (5, .pp [i64 x84.Session, .sl (List.map i64 x84.Writes), .sl (List.map G.api_Take.av x84.Reads)] 0)]) ⟨rfl, rfl, rfl, trivial⟩)
  · intro K27 hK27
    refine awp_reg rfl ?_
    refine AR.op rfl (aop_field_pp rfl rfl fd47_0 (by decide)) ?_
    refine AR.op (r := i64 x84.Session) rfl (aop_load_pp rfl rfl sz3 rfl) ?_
    refine AR.op (r := bl (decide (x84.Session < 0))) rfl (aop_lss rfl rfl rfl) ?_
    refine AR.drop (frx := [(1, _), (2, _), (5, _), (17, _)]) ⟨rfl, rfl, rfl, rfl, trivial⟩ ?_
    refine AR.op (r := bl (decide (x84.Session < 0))) rfl (aop_move (.inl rfl) rfl) ?_
    rcases Bool.eq_false_or_eq_true (decide (x84.Session < 0)) with hb316 | hb316
    · rw [hb316]
      replace h := Sh.if_t h hb316
      refine AR.skip rfl ?_
      refine AR.skip rfl ?_
      refine AR.drop (frx := [(1, _), (2, _), (5, _), (18, _), (20, _)]) ⟨rfl, rfl, rfl, rfl, rfl, trivial⟩ ?_
      refine AR.skip rfl ?_
      refine AR.op (r := bl true) rfl (aop_pick rfl rfl rfl) ?_
      refine AR.nil ?_
      exact hK27 true _ h (Weak.kp (fr' := [(1, i64 n_1), (2, .pp [.sl (List.map G.api_Txn.av h_0.Txns)] 0), (5, .pp [i64 x84.Session, .sl (List.map i64 x84.Writes), .sl (List.map G.api_Take.av x84.Reads)] 0), (22, bl true)]) ⟨rfl, rfl, rfl, rfl, trivial⟩)
    · rw [hb316]
      replace h := Sh.if_f h hb316
      refine AR.op rfl (aop_field_pp rfl rfl fd47_0 (by decide)) ?_
      refine AR.op (r := i64 x84.Session) rfl (aop_load_pp rfl rfl sz3 rfl) ?_
      refine AR.drop (frx := [(1, _), (2, _), (5, _), (18, _), (20, _)]) ⟨rfl, rfl, rfl, rfl, rfl, trivial⟩ ?_
      refine AR.op (r := bl (decide ((7 : Int) < x84.Session))) rfl (aop_gtr rfl rfl rfl) ?_
      refine AR.op (r := bl (decide ((7 : Int) < x84.Session))) rfl (aop_pick rfl rfl rfl) ?_
      refine AR.nil ?_
      exact hK27 (decide ((7 : Int) < x84.Session)) _ h (Weak.re (fr' := [(1, i64 n_1), (2, .pp [.sl (List.map G.api_Txn.av h_0.Txns)] 0), (5, .pp [i64 x84.Session, .sl (List.map i64 x84.Writes), .sl (List.map G.api_Take.av x84.Reads)] 0), (22, bl (decide ((7 : Int) < x84.Session)))]) (H' := .empty) [] [] rfl rfl rfl (trivial) ⟨⟨_, rfl, .same _ (by simp)⟩, ⟨_, rfl, .same _ (by simp)⟩, ⟨_, rfl, .same _ (by simp)⟩, ⟨_, rfl, .same _ (by simp)⟩, trivial⟩)
theorem inquestref08_one_ok {W0 : World} (hT : Tab W0) {h_0 : G.api_Hist} {n_1 : Int} {r : Bool} (h : G.inquestref08_one h_0 n_1 = some r) : Fun1 Try.prog W0 48 [G.api_Hist.av h_0, i64 n_1] (bl r) := Fun1.two (inquestref08_one_ok0 hT h) (by simp)


set_option maxHeartbeats 8000000 in
set_option maxRecDepth 20000 in
theorem inquestref08_Right_ok0 {W0 : World} (hT : Tab W0) {h_0 : G.api_Hist} {r : Bool} (h : G.inquestref08_Right h_0 = some r) : Fun2 Try.prog W0 39 [G.api_Hist.av h_0] (bl r) .empty := by
  refine fun2_of_awp Try.func39 rfl (by kernel_rfl) Try.ntmps39 (by simp) ?_
  unfold G.inquestref08_Right at h
  show AWP _ _ _ _ ⟨[(0, G.api_Hist.av h_0)], .empty⟩ _
  refine awp_seqK fun K1 hK1 => ?_
  refine awp_reg rfl ?_
  refine AR.op (r := .ref 0 0 0) rfl (aop_box 1 [G.api_Hist.av h_0] rfl rfl rfl (.inl ⟨rfl, rfl⟩)) ?_
  refine AR.op (r := bl false) rfl (aop_move (.inr rfl) rfl) ?_
  refine AR.nil ?_
  refine hK1 _ (AWP.weak (Weak.re (fr' := [(1, .pp [.sl (List.map G.api_Txn.av h_0.Txns)] 0)]) (H' := .empty) [] [] rfl rfl rfl (trivial) ⟨⟨_, rfl, .frzA rfl rfl rfl rfl (by simp)⟩, trivial⟩) ?_)
  clear hK1 K1
  refine awp_seqK fun K2 hK2 => ?_
  refine awp_seqK fun K3 hK3 => ?_
  refine awp_reg rfl ?_
  refine AR.op rfl (aop_field_pp rfl rfl fd24_0 (by decide)) ?_
  refine AR.op (r := .sl (List.map G.api_Txn.av h_0.Txns)) rfl (aop_load_pp rfl rfl sz22 rfl) ?_
  refine AR.op (r := i64 (Sh.len h_0.Txns)) rfl (t_len_sl G.api_Txn.av h_0.Txns rfl rfl el22) ?_
  refine AR.drop (frx := [(1, _), (7, _)]) ⟨rfl, rfl, trivial⟩ ?_
  refine AR.op (r := bl (decide ((32 : Int) < (Sh.len h_0.Txns)))) rfl (aop_gtr rfl rfl rfl) ?_
  refine AR.nil ?_
  refine hK3 _ (AWP.weak (Weak.kp (fr' := [(1, .pp [.sl (List.map G.api_Txn.av h_0.Txns)] 0), (8, bl (decide ((32 : Int) < (Sh.len h_0.Txns))))]) ⟨rfl, rfl, trivial⟩) ?_)
  clear hK3 K3
  refine awp_cond rfl (fun hb6 => ?_) (fun hb6 => ?_)
  · replace h := Sh.if_t h hb6
    refine awp_seqK fun K4 hK4 => ?_
    refine awp_reg rfl ?_
    refine AR.op (r := bl false) rfl (aop_move (.inr rfl) rfl) ?_
    refine AR.nil ?_
    refine hK4 _ (AWP.weak (Weak.kp (fr' := [(2, bl false)]) ⟨rfl, trivial⟩) ?_)
    clear hK4 K4
    refine awp_ret ?_
    obtain rfl := Option.some.inj h
    refine ⟨.inr rfl, bl false, rfl, ?_⟩
    exact Weak.re [] [] rfl rfl rfl (trivial) ⟨⟨_, rfl, .same _ (by simp)⟩, trivial⟩
  · replace h := Sh.if_f h hb6
    refine awp_skip ?_
    refine hK2 _ (AWP.weak (Weak.kp (fr' := [(1, .pp [.sl (List.map G.api_Txn.av h_0.Txns)] 0)]) ⟨rfl, trivial⟩) ?_)
    clear hK2 K2
    refine awp_seqJ (fun (p : Unit) => (⟨[], .empty⟩ : St)) (fun (p : Unit) => G.inquestref08_Right_j1 = some r) ?_ ?_
    · rintro ⟨⟩ h
      replace h : G.inquestref08_Right_j1 = some r := h
      unfold G.inquestref08_Right_j1 at h
      show AWP _ _ _ _ ⟨[], .empty⟩ _
      refine awp_seqK fun K5 hK5 => ?_
      refine awp_reg rfl ?_
      refine AR.op (r := bl true) rfl (aop_move (.inr rfl) rfl) ?_
      refine AR.nil ?_
      refine hK5 _ ?_
      clear hK5 K5
      refine awp_ret ?_
      obtain rfl := Option.some.inj h
      refine ⟨.inr rfl, bl true, rfl, ?_⟩
      exact Weak.re [] [] rfl rfl rfl (trivial) ⟨⟨_, rfl, .same _ (by simp)⟩, trivial⟩
    · intro K6 hK6
      refine awp_seqK fun K7 hK7 => ?_
      refine awp_reg rfl ?_
      refine AR.op (r := i64 0) rfl (aop_move (.inr rfl) rfl) ?_
      refine AR.nil ?_
      refine hK7 _ ?_
      clear hK7 K7
      refine awp_block ?_
      refine awp_iter (fun (p : Int) => G.inquestref08_Right_b1 h_0 p) (fun (p : Int) => (⟨[(1, .pp [.sl (List.map G.api_Txn.av h_0.Txns)] 0), (3, i64 p)], .empty⟩ : St)) h (Weak.kp (fr' := [(1, .pp [.sl (List.map G.api_Txn.av h_0.Txns)] 0), (3, i64 0)]) ⟨rfl, rfl, trivial⟩) ?_
      · skip
        rintro n15 o1 h hx1
        replace h : G.inquestref08_Right_b1 h_0 n15 = some o1 := h
        unfold G.inquestref08_Right_b1 at h
        show AWP _ _ _ _ ⟨[(1, .pp [.sl (List.map G.api_Txn.av h_0.Txns)] 0), (3, i64 n15)], .empty⟩ _
        refine awp_seqK fun K8 hK8 => ?_
        refine awp_seqK fun K9 hK9 => ?_
        refine awp_reg rfl ?_
        refine AR.op (r := i64 n15) rfl (aop_move (.inl rfl) rfl) ?_
        refine AR.op rfl (aop_field_pp rfl rfl fd24_0 (by decide)) ?_
        refine AR.op (r := .sl (List.map G.api_Txn.av h_0.Txns)) rfl (aop_load_pp rfl rfl sz22 rfl) ?_
        refine AR.drop (frx := [(1, _), (3, _), (9, _), (11, _)]) ⟨rfl, rfl, rfl, rfl, trivial⟩ ?_
        refine AR.op (r := i64 (Sh.len h_0.Txns)) rfl (t_len_sl G.api_Txn.av h_0.Txns rfl rfl el22) ?_
        refine AR.op (r := bl (decide (n15 < (Sh.len h_0.Txns)))) rfl (aop_lss rfl rfl rfl) ?_
        refine AR.nil ?_
        refine hK9 _ (AWP.weak (Weak.kp (fr' := [(1, .pp [.sl (List.map G.api_Txn.av h_0.Txns)] 0), (3, i64 n15), (13, bl (decide (n15 < (Sh.len h_0.Txns))))]) ⟨rfl, rfl, rfl, trivial⟩) ?_)
        clear hK9 K9
        refine awp_cond rfl (fun hb16 => ?_) (fun hb16 => ?_)
        · replace h := Sh.if_t h hb16
          refine awp_skip ?_
          refine hK8 _ (AWP.weak (Weak.kp (fr' := [(1, .pp [.sl (List.map G.api_Txn.av h_0.Txns)] 0), (3, i64 n15)]) ⟨rfl, rfl, trivial⟩) ?_)
          clear hK8 K8
          refine awp_seqK fun K10 hK10 => ?_
          refine awp_block ?_
          refine awp_seqK fun K11 hK11 => ?_
          refine awp_reg rfl ?_
          refine AR.op (r := G.api_Hist.av h_0) rfl (aop_load_pp rfl rfl sz24 rfl) ?_
          refine AR.op (r := i64 n15) rfl (aop_move (.inl rfl) rfl) ?_
          obtain ⟨r19, hr19, h⟩ := Sh.bind_some' h
          refine AR.op (r := bl r19) rfl (aop_call1 rfl rfl (by simp) (inquestref08_one_ok hT hr19)) ?_
          refine AR.drop (frx := [(1, _), (3, _), (18, _)]) ⟨rfl, rfl, rfl, trivial⟩ ?_
          refine AR.op (r := bl r19) rfl (aop_move (.inr rfl) rfl) ?_
          refine AR.nil ?_
          refine hK11 _ (AWP.weak (Weak.kp (fr' := [(1, .pp [.sl (List.map G.api_Txn.av h_0.Txns)] 0), (3, i64 n15), (4, bl r19)]) ⟨rfl, rfl, rfl, trivial⟩) ?_)
          clear hK11 K11
          refine awp_seqK fun K12 hK12 => ?_
          refine awp_reg rfl ?_
          refine AR.op (r := bl r19) rfl (aop_move (.inl rfl) rfl) ?_
          refine AR.op (r := bl (!r19)) rfl (aop_not rfl rfl) ?_
          refine AR.nil ?_
          refine hK12 _ (AWP.weak (Weak.kp (fr' := [(1, .pp [.sl (List.map G.api_Txn.av h_0.Txns)] 0), (3, i64 n15), (20, bl (!r19))]) ⟨rfl, rfl, rfl, trivial⟩) ?_)
          clear hK12 K12
          refine awp_cond rfl (fun hb20 => ?_) (fun hb20 => ?_)
          · replace h := Sh.if_t h hb20
            refine awp_seqK fun K13 hK13 => ?_
            refine awp_reg rfl ?_
            refine AR.op (r := bl false) rfl (aop_move (.inr rfl) rfl) ?_
            refine AR.nil ?_
            refine hK13 _ (AWP.weak (Weak.kp (fr' := [(2, bl false)]) ⟨rfl, trivial⟩) ?_)
            clear hK13 K13
            refine awp_ret ?_
            replace h := Sh.exit_eq h hx1
            obtain rfl := Option.some.inj h
            refine ⟨.inr rfl, bl false, rfl, ?_⟩
            exact Weak.re [] [] rfl rfl rfl (trivial) ⟨⟨_, rfl, .same _ (by simp)⟩, trivial⟩
          · replace h := Sh.if_f h hb20
            refine awp_skip ?_
            refine hK10 _ (AWP.weak (Weak.kp (fr' := [(1, .pp [.sl (List.map G.api_Txn.av h_0.Txns)] 0), (3, i64 n15)]) ⟨rfl, rfl, trivial⟩) ?_)
            clear hK10 K10
            refine awp_reg rfl ?_
            refine AR.op (r := i64 n15) rfl (aop_move (.inl rfl) rfl) ?_
            refine AR.op (r := i64 (w64 (n15 + 1))) rfl (aop_add rfl rfl rfl rfl) ?_
            refine AR.op (r := i64 (w64 (n15 + 1))) rfl (aop_move (.inr rfl) rfl) ?_
            refine AR.nil ?_
            replace h := Sh.next_eq h
            exact ⟨_, h, Weak.re (fr' := [(1, .pp [.sl (List.map G.api_Txn.av h_0.Txns)] 0), (3, i64 (w64 (n15 + 1)))]) (H' := .empty) [] [] rfl rfl rfl (trivial) ⟨⟨_, rfl, .same _ (by simp)⟩, ⟨_, rfl, .same _ (by simp)⟩, trivial⟩⟩
        · replace h := Sh.if_f h hb16
          refine awp_exit ?_
          replace h := Sh.exit_eq h hx1
          exact hK6 () _ h (Weak.kp (fr' := []) trivial)
theorem inquestref08_Right_ok {W0 : World} (hT : Tab W0) {h_0 : G.api_Hist} {r : Bool} (h : G.inquestref08_Right h_0 = some r) : Fun1 Try.prog W0 39 [G.api_Hist.av h_0] (bl r) := Fun1.two (inquestref08_Right_ok0 hT h) (by simp)

end Wk
