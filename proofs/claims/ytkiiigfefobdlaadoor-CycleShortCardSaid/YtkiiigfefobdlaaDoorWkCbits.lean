/- That the functions of a package do what their plain functions say. -/
import Derived.Test.YtkiiigfefobdlaaDoorSh
import Derived.Test.YtkiiigfefobdlaaDoorWkCFacts
import Derived.Test.YtkiiigfefobdlaaDoorWkCstdbits
open Go Go.Av Go.Proofs
set_option linter.unusedVariables false
namespace Wk
set_option maxHeartbeats 8000000 in
set_option maxRecDepth 20000 in
theorem bits_Join_ok0 {W0 : World} (hT : Tab W0) {l_0 : List (BitVec 64)} {r : (BitVec 64)} (h : G.bits_Join l_0 = some r) : Fun2 Tryd.prog W0 44 [.sl (List.map u64 l_0)] (u64 r) .empty := by
  refine fun2_of_awp Tryd.func44 rfl (by kernel_rfl) Tryd.ntmps44 (by simp) ?_
  unfold G.bits_Join at h
  show AWP _ _ _ _ ⟨[(0, .sl (List.map u64 l_0))], .empty⟩ _
  refine awp_seqK fun K1 hK1 => ?_
  refine awp_reg rfl ?_
  refine AR.op (r := u64 0#64) rfl (aop_move (.inr rfl) rfl) ?_
  refine AR.nil ?_
  refine hK1 _ (AWP.weak (Weak.kp (fr' := [(0, .sl (List.map u64 l_0))]) ⟨rfl, trivial⟩) ?_)
  clear hK1 K1
  refine awp_seqK fun K2 hK2 => ?_
  refine awp_reg rfl ?_
  refine AR.op (r := u64 0#64) rfl (aop_move (.inr rfl) rfl) ?_
  refine AR.nil ?_
  refine hK2 _ ?_
  clear hK2 K2
  refine awp_seqJ (fun (p : (BitVec 64)) => (⟨[(3, u64 p)], .empty⟩ : St)) (fun (p : (BitVec 64)) => G.bits_Join_j1 p = some r) ?_ ?_
  · rintro out21 h
    replace h : G.bits_Join_j1 out21 = some r := h
    unfold G.bits_Join_j1 at h
    show AWP _ _ _ _ ⟨[(3, u64 out21)], .empty⟩ _
    refine awp_seqK fun K3 hK3 => ?_
    refine awp_reg rfl ?_
    refine AR.op (r := u64 out21) rfl (aop_move (.inl rfl) rfl) ?_
    refine AR.op (r := u64 out21) rfl (aop_move (.inr rfl) rfl) ?_
    refine AR.nil ?_
    refine hK3 _ (AWP.weak (Weak.kp (fr' := [(2, u64 out21)]) ⟨rfl, trivial⟩) ?_)
    clear hK3 K3
    refine awp_ret ?_
    obtain rfl := Option.some.inj h
    refine ⟨.inr rfl, u64 out21, rfl, ?_⟩
    exact Weak.re [] [] rfl rfl rfl (trivial) ⟨⟨_, rfl, .same _ (by simp)⟩, trivial⟩
  · intro K4 hK4
    refine awp_seqK fun K5 hK5 => ?_
    refine awp_reg rfl ?_
    refine AR.op (r := .sl (List.map u64 l_0)) rfl (aop_move (.inl rfl) rfl) ?_
    refine AR.op (r := i64 (Sh.len l_0)) rfl (t_len_sl u64 l_0 rfl rfl el22) ?_
    refine AR.op (r := i64 0) rfl (aop_move (.inl rfl) rfl) ?_
    refine AR.nil ?_
    refine hK5 _ (AWP.weak (Weak.kp (fr' := [(3, u64 0#64), (6, .sl (List.map u64 l_0)), (7, i64 (Sh.len l_0)), (8, i64 0)]) ⟨rfl, rfl, rfl, rfl, trivial⟩) ?_)
    clear hK5 K5
    refine awp_block ?_
    refine awp_iter (fun (p : (BitVec 64) × Int) => G.bits_Join_b1 l_0 p.1 p.2) (fun (p : (BitVec 64) × Int) => (⟨[(3, u64 p.1), (6, .sl (List.map u64 l_0)), (7, i64 (Sh.len l_0)), (8, i64 p.2)], .empty⟩ : St)) h (Weak.kp (fr' := [(3, u64 0#64), (6, .sl (List.map u64 l_0)), (7, i64 (Sh.len l_0)), (8, i64 0)]) ⟨rfl, rfl, rfl, rfl, trivial⟩) ?_
    · skip
      rintro ⟨out28, v29⟩ o1 h hx1
      replace h : G.bits_Join_b1 l_0 out28 v29 = some o1 := h
      unfold G.bits_Join_b1 at h
      show AWP _ _ _ _ ⟨[(3, u64 out28), (6, .sl (List.map u64 l_0)), (7, i64 (Sh.len l_0)), (8, i64 v29)], .empty⟩ _
      refine awp_seqK fun K6 hK6 => ?_
      refine awp_reg rfl ?_
      refine AR.op (r := bl (decide (v29 < (Sh.len l_0)))) rfl (aop_lss rfl rfl rfl) ?_
      refine AR.nil ?_
      refine hK6 _ ?_
      clear hK6 K6
      refine awp_seqK fun K7 hK7 => ?_
      refine awp_cond rfl (fun hb30 => ?_) (fun hb30 => ?_)
      · replace h := Sh.if_t h hb30
        refine awp_skip ?_
        refine hK7 _ (AWP.weak (Weak.kp (fr' := [(3, u64 out28), (6, .sl (List.map u64 l_0)), (7, i64 (Sh.len l_0)), (8, i64 v29)]) ⟨rfl, rfl, rfl, rfl, trivial⟩) ?_)
        clear hK7 K7
        refine awp_seqK fun K8 hK8 => ?_
        refine awp_block ?_
        refine awp_seqK fun K9 hK9 => ?_
        refine awp_reg rfl ?_
        obtain ⟨x35, hx35, h⟩ := Sh.bind_some' h
        obtain ⟨k36, hi36, hl36⟩ := Sh.idx_some hx35
        refine AR.op rfl (t_index_sl u64 l_0 hi36 hl36 rfl rfl rfl el22 rfl) ?_
        refine AR.op (r := u64 x35) rfl (aop_load_pp rfl rfl sz35 rfl) ?_
        refine AR.op (r := u64 x35) rfl (aop_move (.inr rfl) rfl) ?_
        refine AR.nil ?_
        refine hK9 _ (AWP.weak (Weak.kp (fr' := [(3, u64 out28), (6, .sl (List.map u64 l_0)), (7, i64 (Sh.len l_0)), (8, i64 v29), (5, u64 x35)]) ⟨rfl, rfl, rfl, rfl, rfl, trivial⟩) ?_)
        clear hK9 K9
        refine awp_reg rfl ?_
        refine AR.op (r := u64 out28) rfl (aop_move (.inl rfl) rfl) ?_
        refine AR.op (r := u64 x35) rfl (aop_move (.inl rfl) rfl) ?_
        refine AR.op (r := u64 (out28 ||| x35)) rfl (aop_or (a := out28) (b := x35) rfl rfl rfl) ?_
        refine AR.drop (frx := [(6, _), (7, _), (8, _), (14, _)]) ⟨rfl, rfl, rfl, rfl, trivial⟩ ?_
        refine AR.op (r := u64 (out28 ||| x35)) rfl (aop_move (.inr rfl) rfl) ?_
        refine AR.nil ?_
        refine hK8 _ (AWP.weak (Weak.kp (fr' := [(6, .sl (List.map u64 l_0)), (7, i64 (Sh.len l_0)), (8, i64 v29), (3, u64 (out28 ||| x35))]) ⟨rfl, rfl, rfl, rfl, trivial⟩) ?_)
        clear hK8 K8
        refine awp_reg rfl ?_
        refine AR.op (r := i64 (w64 (v29 + 1))) rfl (aop_add rfl rfl rfl rfl) ?_
        refine AR.op (r := i64 (w64 (v29 + 1))) rfl (aop_move (.inl rfl) rfl) ?_
        refine AR.nil ?_
        replace h := Sh.next_eq h
        exact ⟨_, h, Weak.re (fr' := [(3, u64 (out28 ||| x35)), (6, .sl (List.map u64 l_0)), (7, i64 (Sh.len l_0)), (8, i64 (w64 (v29 + 1)))]) (H' := .empty) [] [] rfl rfl rfl (trivial) ⟨⟨_, rfl, .same _ (by simp)⟩, ⟨.sl (List.map u64 l_0), rfl, .same _ (by simp)⟩, ⟨_, rfl, .same _ (by simp)⟩, ⟨_, rfl, .same _ (by simp)⟩, trivial⟩⟩
      · replace h := Sh.if_f h hb30
        refine awp_exit ?_
        replace h := Sh.exit_eq h hx1
        exact hK4 out28 _ h (Weak.kp (fr' := [(3, u64 out28)]) ⟨rfl, trivial⟩)
theorem bits_Join_ok {W0 : World} (hT : Tab W0) {l_0 : List (BitVec 64)} {r : (BitVec 64)} (h : G.bits_Join l_0 = some r) : Fun1 Tryd.prog W0 44 [.sl (List.map u64 l_0)] (u64 r) := Fun1.two (bits_Join_ok0 hT h) (by simp)


set_option maxHeartbeats 8000000 in
set_option maxRecDepth 20000 in
theorem bits_Sub_ok0 {W0 : World} (hT : Tab W0) {a_0 : BitVec 64} {b_1 : BitVec 64} {r : Bool} (h : G.bits_Sub a_0 b_1 = some r) : Fun2 Tryd.prog W0 54 [u64 a_0, u64 b_1] (bl r) .empty := by
  refine fun2_of_awp Tryd.func54 rfl (by kernel_rfl) Tryd.ntmps54 (by simp) ?_
  unfold G.bits_Sub at h
  show AWP _ _ _ _ ⟨[(0, u64 a_0), (1, u64 b_1)], .empty⟩ _
  refine awp_seqK fun K1 hK1 => ?_
  refine awp_reg rfl ?_
  refine AR.op (r := bl false) rfl (aop_move (.inr rfl) rfl) ?_
  refine AR.nil ?_
  refine hK1 _ (AWP.weak (Weak.kp (fr' := [(0, u64 a_0), (1, u64 b_1)]) ⟨rfl, rfl, trivial⟩) ?_)
  clear hK1 K1
  refine awp_seqK fun K2 hK2 => ?_
  refine awp_reg rfl ?_
  refine AR.op (r := u64 a_0) rfl (aop_move (.inl rfl) rfl) ?_
  refine AR.op (r := u64 b_1) rfl (aop_move (.inl rfl) rfl) ?_
  refine AR.op (r := u64 (a_0 &&& ~~~b_1)) rfl (aop_andNot (a := a_0) (b := b_1) rfl rfl rfl) ?_
  refine AR.drop (frx := [(7, _)]) ⟨rfl, trivial⟩ ?_
  refine AR.op (r := bl (decide ((a_0 &&& ~~~b_1) = 0#64))) rfl (aop_eql64 (a := a_0 &&& ~~~b_1) (b := 0#64) rfl rfl rfl) ?_
  refine AR.op (r := bl (decide ((a_0 &&& ~~~b_1) = 0#64))) rfl (aop_move (.inr rfl) rfl) ?_
  refine AR.nil ?_
  refine hK2 _ (AWP.weak (Weak.kp (fr' := [(4, bl (decide ((a_0 &&& ~~~b_1) = 0#64)))]) ⟨rfl, trivial⟩) ?_)
  clear hK2 K2
  refine awp_ret ?_
  obtain rfl := Option.some.inj h
  refine ⟨.inr rfl, bl (decide ((a_0 &&& ~~~b_1) = 0#64)), rfl, ?_⟩
  exact Weak.re [] [] rfl rfl rfl (trivial) ⟨⟨_, rfl, .same _ (by simp)⟩, trivial⟩
theorem bits_Sub_ok {W0 : World} (hT : Tab W0) {a_0 : BitVec 64} {b_1 : BitVec 64} {r : Bool} (h : G.bits_Sub a_0 b_1 = some r) : Fun1 Tryd.prog W0 54 [u64 a_0, u64 b_1] (bl r) := Fun1.two (bits_Sub_ok0 hT h) (by simp)


set_option maxHeartbeats 8000000 in
set_option maxRecDepth 20000 in
theorem bits_bit_ok0 {W0 : World} (hT : Tab W0) {i_0 : Int} {r : (BitVec 64)} (h : G.bits_bit i_0 = some r) : Fun2 Tryd.prog W0 60 [i64 i_0] (u64 r) .empty := by
  refine fun2_of_awp Tryd.func60 rfl (by kernel_rfl) Tryd.ntmps60 (by simp) ?_
  unfold G.bits_bit at h
  show AWP _ _ _ _ ⟨[(0, i64 i_0)], .empty⟩ _
  refine awp_seqK fun K1 hK1 => ?_
  refine awp_reg rfl ?_
  refine AR.op (r := u64 0#64) rfl (aop_move (.inr rfl) rfl) ?_
  refine AR.nil ?_
  refine hK1 _ (AWP.weak (Weak.kp (fr' := [(0, i64 i_0)]) ⟨rfl, trivial⟩) ?_)
  clear hK1 K1
  refine awp_seqK fun K2 hK2 => ?_
  refine awp_seqJ (fun (p : Bool) => (⟨[(0, i64 i_0), (8, bl p)], .empty⟩ : St)) (fun (p : Bool) => G.bits_bit_j1 i_0 p = some r) ?_ ?_
  · rintro v7 h
    replace h : G.bits_bit_j1 i_0 v7 = some r := h
    unfold G.bits_bit_j1 at h
    show AWP _ _ _ _ ⟨[(0, i64 i_0), (8, bl v7)], .empty⟩ _
    refine awp_cond rfl (fun hb8 => ?_) (fun hb8 => ?_)
    · replace h := Sh.if_t h hb8
      refine awp_seqK fun K3 hK3 => ?_
      refine awp_reg rfl ?_
      refine AR.op (r := u64 0#64) rfl (aop_move (.inr rfl) rfl) ?_
      refine AR.nil ?_
      refine hK3 _ (AWP.weak (Weak.kp (fr' := [(2, u64 0#64)]) ⟨rfl, trivial⟩) ?_)
      clear hK3 K3
      refine awp_ret ?_
      obtain rfl := Option.some.inj h
      refine ⟨.inr rfl, u64 0#64, rfl, ?_⟩
      exact Weak.re [] [] rfl rfl rfl (trivial) ⟨⟨_, rfl, .same _ (by simp)⟩, trivial⟩
    · replace h := Sh.if_f h hb8
      refine awp_skip ?_
      refine hK2 _ (AWP.weak (Weak.kp (fr' := [(0, i64 i_0)]) ⟨rfl, trivial⟩) ?_)
      clear hK2 K2
      refine awp_seqK fun K4 hK4 => ?_
      refine awp_reg rfl ?_
      refine AR.op (r := i64 i_0) rfl (aop_move (.inl rfl) rfl) ?_
      obtain ⟨s10, hs10, h⟩ := Sh.bind_some' h
      refine AR.op (r := u64 s10) rfl (t_shl hs10 rfl rfl rfl) ?_
      refine AR.op (r := u64 s10) rfl (aop_move (.inr rfl) rfl) ?_
      refine AR.nil ?_
      refine hK4 _ (AWP.weak (Weak.kp (fr' := [(2, u64 s10)]) ⟨rfl, trivial⟩) ?_)
      clear hK4 K4
      refine awp_ret ?_
      obtain rfl := Option.some.inj h
      refine ⟨.inr rfl, u64 s10, rfl, ?_⟩
      exact Weak.re [] [] rfl rfl rfl (trivial) ⟨⟨_, rfl, .same _ (by simp)⟩, trivial⟩
  · intro K5 hK5
    refine awp_reg rfl ?_
    refine AR.op (r := i64 i_0) rfl (aop_move (.inl rfl) rfl) ?_
    refine AR.op (r := bl (decide (i_0 < 0))) rfl (aop_lss rfl rfl rfl) ?_
    refine AR.op (r := bl (decide (i_0 < 0))) rfl (aop_move (.inl rfl) rfl) ?_
    refine AR.drop (frx := [(0, _), (5, _)]) ⟨rfl, rfl, trivial⟩ ?_
    rcases Bool.eq_false_or_eq_true (decide (i_0 < 0)) with hb11 | hb11
    · rw [hb11]
      replace h := Sh.if_t h hb11
      refine AR.skip rfl ?_
      refine AR.skip rfl ?_
      refine AR.op (r := bl true) rfl (aop_pick rfl rfl rfl) ?_
      refine AR.nil ?_
      exact hK5 true _ h (Weak.kp (fr' := [(0, i64 i_0), (8, bl true)]) ⟨rfl, rfl, trivial⟩)
    · rw [hb11]
      replace h := Sh.if_f h hb11
      refine AR.op (r := i64 i_0) rfl (aop_move (.inl rfl) rfl) ?_
      refine AR.op (r := bl (decide ((64 : Int) ≤ i_0))) rfl (aop_geq rfl rfl rfl) ?_
      refine AR.op (r := bl (decide ((64 : Int) ≤ i_0))) rfl (aop_pick rfl rfl rfl) ?_
      refine AR.nil ?_
      exact hK5 (decide ((64 : Int) ≤ i_0)) _ h (Weak.re (fr' := [(0, i64 i_0), (8, bl (decide ((64 : Int) ≤ i_0)))]) (H' := .empty) [] [] rfl rfl rfl (trivial) ⟨⟨_, rfl, .same _ (by simp)⟩, ⟨_, rfl, .same _ (by simp)⟩, trivial⟩)
theorem bits_bit_ok {W0 : World} (hT : Tab W0) {i_0 : Int} {r : (BitVec 64)} (h : G.bits_bit i_0 = some r) : Fun1 Tryd.prog W0 60 [i64 i_0] (u64 r) := Fun1.two (bits_bit_ok0 hT h) (by simp)


set_option maxHeartbeats 8000000 in
set_option maxRecDepth 20000 in
theorem bits_Has_ok0 {W0 : World} (hT : Tab W0) {s_0 : BitVec 64} {i_1 : Int} {r : Bool} (h : G.bits_Has s_0 i_1 = some r) : Fun2 Tryd.prog W0 35 [u64 s_0, i64 i_1] (bl r) .empty := by
  refine fun2_of_awp Tryd.func35 rfl (by kernel_rfl) Tryd.ntmps35 (by simp) ?_
  unfold G.bits_Has at h
  show AWP _ _ _ _ ⟨[(0, u64 s_0), (1, i64 i_1)], .empty⟩ _
  refine awp_seqK fun K1 hK1 => ?_
  refine awp_reg rfl ?_
  refine AR.op (r := bl false) rfl (aop_move (.inr rfl) rfl) ?_
  refine AR.nil ?_
  refine hK1 _ (AWP.weak (Weak.kp (fr' := [(0, u64 s_0), (1, i64 i_1)]) ⟨rfl, rfl, trivial⟩) ?_)
  clear hK1 K1
  refine awp_seqK fun K2 hK2 => ?_
  refine awp_reg rfl ?_
  refine AR.op (r := u64 s_0) rfl (aop_move (.inl rfl) rfl) ?_
  refine AR.op (r := i64 i_1) rfl (aop_move (.inl rfl) rfl) ?_
  obtain ⟨r3, hr3, h⟩ := Sh.bind_some' h
  refine AR.op (r := u64 r3) rfl (aop_call1 rfl rfl (by simp) (bits_bit_ok hT hr3)) ?_
  refine AR.drop (frx := [(5, _), (7, _)]) ⟨rfl, rfl, trivial⟩ ?_
  refine AR.op (r := u64 (s_0 &&& r3)) rfl (aop_and (a := s_0) (b := r3) rfl rfl rfl) ?_
  refine AR.op (r := bl (decide ((s_0 &&& r3) ≠ 0#64))) rfl (aop_neq64 (a := s_0 &&& r3) (b := 0#64) rfl rfl rfl) ?_
  refine AR.op (r := bl (decide ((s_0 &&& r3) ≠ 0#64))) rfl (aop_move (.inr rfl) rfl) ?_
  refine AR.nil ?_
  refine hK2 _ (AWP.weak (Weak.kp (fr' := [(4, bl (decide ((s_0 &&& r3) ≠ 0#64)))]) ⟨rfl, trivial⟩) ?_)
  clear hK2 K2
  refine awp_ret ?_
  obtain rfl := Option.some.inj h
  refine ⟨.inr rfl, bl (decide ((s_0 &&& r3) ≠ 0#64)), rfl, ?_⟩
  exact Weak.re [] [] rfl rfl rfl (trivial) ⟨⟨_, rfl, .same _ (by simp)⟩, trivial⟩
theorem bits_Has_ok {W0 : World} (hT : Tab W0) {s_0 : BitVec 64} {i_1 : Int} {r : Bool} (h : G.bits_Has s_0 i_1 = some r) : Fun1 Tryd.prog W0 35 [u64 s_0, i64 i_1] (bl r) := Fun1.two (bits_Has_ok0 hT h) (by simp)


set_option maxHeartbeats 8000000 in
set_option maxRecDepth 20000 in
theorem bits_With_ok0 {W0 : World} (hT : Tab W0) {s_0 : BitVec 64} {i_1 : Int} {r : (BitVec 64)} (h : G.bits_With s_0 i_1 = some r) : Fun2 Tryd.prog W0 36 [u64 s_0, i64 i_1] (u64 r) .empty := by
  refine fun2_of_awp Tryd.func36 rfl (by kernel_rfl) Tryd.ntmps36 (by simp) ?_
  unfold G.bits_With at h
  show AWP _ _ _ _ ⟨[(0, u64 s_0), (1, i64 i_1)], .empty⟩ _
  refine awp_seqK fun K1 hK1 => ?_
  refine awp_reg rfl ?_
  refine AR.op (r := u64 0#64) rfl (aop_move (.inr rfl) rfl) ?_
  refine AR.nil ?_
  refine hK1 _ (AWP.weak (Weak.kp (fr' := [(0, u64 s_0), (1, i64 i_1)]) ⟨rfl, rfl, trivial⟩) ?_)
  clear hK1 K1
  refine awp_seqK fun K2 hK2 => ?_
  refine awp_reg rfl ?_
  refine AR.op (r := u64 s_0) rfl (aop_move (.inl rfl) rfl) ?_
  refine AR.op (r := i64 i_1) rfl (aop_move (.inl rfl) rfl) ?_
  obtain ⟨r3, hr3, h⟩ := Sh.bind_some' h
  refine AR.op (r := u64 r3) rfl (aop_call1 rfl rfl (by simp) (bits_bit_ok hT hr3)) ?_
  refine AR.drop (frx := [(5, _), (7, _)]) ⟨rfl, rfl, trivial⟩ ?_
  refine AR.op (r := u64 (s_0 ||| r3)) rfl (aop_or (a := s_0) (b := r3) rfl rfl rfl) ?_
  refine AR.op (r := u64 (s_0 ||| r3)) rfl (aop_move (.inr rfl) rfl) ?_
  refine AR.nil ?_
  refine hK2 _ (AWP.weak (Weak.kp (fr' := [(4, u64 (s_0 ||| r3))]) ⟨rfl, trivial⟩) ?_)
  clear hK2 K2
  refine awp_ret ?_
  obtain rfl := Option.some.inj h
  refine ⟨.inr rfl, u64 (s_0 ||| r3), rfl, ?_⟩
  exact Weak.re [] [] rfl rfl rfl (trivial) ⟨⟨_, rfl, .same _ (by simp)⟩, trivial⟩
theorem bits_With_ok {W0 : World} (hT : Tab W0) {s_0 : BitVec 64} {i_1 : Int} {r : (BitVec 64)} (h : G.bits_With s_0 i_1 = some r) : Fun1 Tryd.prog W0 36 [u64 s_0, i64 i_1] (u64 r) := Fun1.two (bits_With_ok0 hT h) (by simp)


set_option maxHeartbeats 8000000 in
set_option maxRecDepth 20000 in
theorem bits_List_own {W0 : World} (hT : Tab W0) {s_0 : BitVec 64} {r : (List Int)} (h : G.bits_List s_0 = some r) : Fun2 Tryd.prog W0 40 [u64 s_0] (.view 0 0 (List.map i64 r).length) ⟨1, [(0, (1, List.map i64 r))]⟩ := by
  refine fun2_of_awp Tryd.func40 rfl (by kernel_rfl) Tryd.ntmps40 (by simp) ?_
  unfold G.bits_List at h
  show AWP _ _ _ _ ⟨[(0, u64 s_0)], .empty⟩ _
  refine awp_seqK fun K1 hK1 => ?_
  refine awp_reg rfl ?_
  refine AR.op (r := nilS) rfl (aop_move (.inr rfl) rfl) ?_
  refine AR.nil ?_
  refine hK1 _ (AWP.weak (Weak.kp (fr' := [(0, u64 s_0)]) ⟨rfl, trivial⟩) ?_)
  clear hK1 K1
  refine awp_seqK fun K2 hK2 => ?_
  refine awp_reg rfl ?_
  refine AR.op (r := nilS) rfl (aop_move (.inr rfl) rfl) ?_
  refine AR.nil ?_
  refine hK2 _ ?_
  clear hK2 K2
  refine awp_seqJ (fun (p : (List Int)) => (⟨[(3, .view 0 0 (List.map i64 p).length)], ⟨1, [(0, (1, List.map i64 p))]⟩⟩ : St)) (fun (p : (List Int)) => G.bits_List_j1 p = some r) ?_ ?_
  · rintro out21 h
    replace h : G.bits_List_j1 out21 = some r := h
    unfold G.bits_List_j1 at h
    show AWP _ _ _ _ ⟨[(3, .view 0 0 (List.map i64 out21).length)], ⟨1, [(0, (1, List.map i64 out21))]⟩⟩ _
    refine awp_seqK fun K3 hK3 => ?_
    refine awp_reg rfl ?_
    refine AR.op (r := .view 0 0 (List.map i64 out21).length) rfl (aop_move (.inl rfl) rfl) ?_
    refine AR.op (r := .view 0 0 (List.map i64 out21).length) rfl (aop_move (.inr rfl) rfl) ?_
    refine AR.nil ?_
    refine hK3 _ (AWP.weak (Weak.re (fr' := [(2, .view 0 0 (List.map i64 out21).length)]) (H' := ⟨1, [(0, (1, List.map i64 out21))]⟩) [(0, 0)] [] rfl rfl rfl (.cons rfl rfl (.same (by simp)) (of_decide_eq_true rfl) (trivial)) ⟨⟨_, rfl, .view rfl⟩, trivial⟩) ?_)
    clear hK3 K3
    refine awp_ret ?_
    obtain rfl := Option.some.inj h
    refine ⟨.inr rfl, .view 0 0 (List.map i64 out21).length, rfl, ?_⟩
    exact Weak.re [(0, 0)] [] rfl rfl rfl (.cons rfl rfl (.same (by simp)) (of_decide_eq_true rfl) (trivial)) ⟨⟨_, rfl, .view rfl⟩, trivial⟩
  · intro K4 hK4
    refine awp_block ?_
    refine awp_iter (fun (p : (BitVec 64) × (List Int)) => G.bits_List_b1 p.1 p.2) (fun (p : (BitVec 64) × (List Int)) => (⟨[(0, u64 p.1), (3, .view 0 0 (List.map i64 p.2).length)], ⟨1, [(0, (1, List.map i64 p.2))]⟩⟩ : St)) h (Weak.re (fr' := [(0, u64 s_0), (3, .view 0 0 (List.map i64 []).length)]) (H' := ⟨1, [(0, (1, List.map i64 []))]⟩) [] [0] rfl rfl rfl (.fresh (by simp) (of_decide_eq_true rfl) (trivial)) ⟨⟨_, rfl, .same _ (by simp)⟩, ⟨_, rfl, .nil (by simp)⟩, trivial⟩) ?_
    · skip
      rintro ⟨s28, out29⟩ o1 h hx1
      replace h : G.bits_List_b1 s28 out29 = some o1 := h
      unfold G.bits_List_b1 at h
      show AWP _ _ _ _ ⟨[(0, u64 s28), (3, .view 0 0 (List.map i64 out29).length)], ⟨1, [(0, (1, List.map i64 out29))]⟩⟩ _
      refine awp_seqK fun K5 hK5 => ?_
      refine awp_seqK fun K6 hK6 => ?_
      refine awp_reg rfl ?_
      refine AR.op (r := u64 s28) rfl (aop_move (.inl rfl) rfl) ?_
      refine AR.op (r := bl (decide (s28 ≠ 0#64))) rfl (aop_neq64 (a := s28) (b := 0#64) rfl rfl rfl) ?_
      refine AR.nil ?_
      refine hK6 _ (AWP.weak (Weak.re (fr' := [(0, u64 s28), (3, .view 0 0 (List.map i64 out29).length), (5, bl (decide (s28 ≠ 0#64)))]) (H' := ⟨1, [(0, (1, List.map i64 out29))]⟩) [(0, 0)] [] rfl rfl rfl (.cons rfl rfl (.same (by simp)) (of_decide_eq_true rfl) (trivial)) ⟨⟨_, rfl, .same _ (by simp)⟩, ⟨_, rfl, .view rfl⟩, ⟨_, rfl, .same _ (by simp)⟩, trivial⟩) ?_)
      clear hK6 K6
      refine awp_cond rfl (fun hb30 => ?_) (fun hb30 => ?_)
      · replace h := Sh.if_t h hb30
        refine awp_skip ?_
        refine hK5 _ (AWP.weak (Weak.re (fr' := [(0, u64 s28), (3, .view 0 0 (List.map i64 out29).length)]) (H' := ⟨1, [(0, (1, List.map i64 out29))]⟩) [(0, 0)] [] rfl rfl rfl (.cons rfl rfl (.same (by simp)) (of_decide_eq_true rfl) (trivial)) ⟨⟨_, rfl, .same _ (by simp)⟩, ⟨_, rfl, .view rfl⟩, trivial⟩) ?_)
        clear hK5 K5
        refine awp_seqK fun K7 hK7 => ?_
        refine awp_block ?_
        refine awp_reg rfl ?_
        refine AR.op (r := .view 0 0 (List.map i64 out29).length) rfl (aop_move (.inl rfl) rfl) ?_
        refine AR.op (r := u64 s28) rfl (aop_move (.inl rfl) rfl) ?_
        obtain ⟨r33, hr33, h⟩ := Sh.bind_some' h
        refine AR.op (r := i64 r33) rfl (aop_call1 rfl rfl (by simp) (bits_TrailingZeros64_ok hT hr33)) ?_
        refine AR.drop (frx := [(0, _), (10, _), (12, _)]) ⟨rfl, rfl, rfl, trivial⟩ ?_
        refine AR.op (r := .clip (List.map i64 [r33])) rfl (aop_buildSlice rfl (xo := [.tmp 12]) rfl rfl rfl (by simp [AV.solid]) (by simp [AV.flat]) el25 ze25 (by decide)) ?_
        obtain ⟨out34, hout34, h⟩ := Sh.bind_some' h
        refine AR.op (r := .view 1 0 (List.map i64 out34).length) rfl (t_app_view i64 out29 [r33] out34 hout34 rfl et25 (fun _ => rfl) rfl rfl rfl rfl rfl rfl rfl) ?_
        refine AR.op (r := .view 1 0 (List.map i64 out34).length) rfl (aop_move (.inr rfl) rfl) ?_
        refine AR.nil ?_
        refine hK7 _ (AWP.weak (Weak.re (fr' := [(0, u64 s28), (3, .view 0 0 (List.map i64 out34).length)]) (H' := ⟨1, [(0, (1, List.map i64 out34))]⟩) [(0, 1)] [] rfl rfl rfl (.cons rfl rfl (.same (by simp)) (of_decide_eq_true rfl) (trivial)) ⟨⟨_, rfl, .same _ (by simp)⟩, ⟨_, rfl, .view rfl⟩, trivial⟩) ?_)
        clear hK7 K7
        refine awp_reg rfl ?_
        refine AR.op (r := u64 s28) rfl (aop_move (.inl rfl) rfl) ?_
        refine AR.op (r := u64 s28) rfl (aop_move (.inl rfl) rfl) ?_
        refine AR.op (r := u64 (s28 - 1#64)) rfl (aop_sub64 (a := s28) (b := 1#64) rfl rfl rfl) ?_
        refine AR.drop (frx := [(3, _), (6, _), (8, _)]) ⟨rfl, rfl, rfl, trivial⟩ ?_
        refine AR.op (r := u64 (s28 &&& (s28 - 1#64))) rfl (aop_and (a := s28) (b := s28 - 1#64) rfl rfl rfl) ?_
        refine AR.op (r := u64 (s28 &&& (s28 - 1#64))) rfl (aop_move (.inr rfl) rfl) ?_
        refine AR.nil ?_
        replace h := Sh.next_eq h
        exact ⟨_, h, Weak.re (fr' := [(0, u64 (s28 &&& (s28 - 1#64))), (3, .view 0 0 (List.map i64 out34).length)]) (H' := ⟨1, [(0, (1, List.map i64 out34))]⟩) [(0, 0)] [] rfl rfl rfl (.cons rfl rfl (.same (by simp)) (of_decide_eq_true rfl) (trivial)) ⟨⟨_, rfl, .same _ (by simp)⟩, ⟨_, rfl, .view rfl⟩, trivial⟩⟩
      · replace h := Sh.if_f h hb30
        refine awp_exit ?_
        replace h := Sh.exit_eq h hx1
        exact hK4 out29 _ h (Weak.re (fr' := [(3, .view 0 0 (List.map i64 out29).length)]) (H' := ⟨1, [(0, (1, List.map i64 out29))]⟩) [(0, 0)] [] rfl rfl rfl (.cons rfl rfl (.same (by simp)) (of_decide_eq_true rfl) (trivial)) ⟨⟨_, rfl, .view rfl⟩, trivial⟩)
theorem bits_List_ok {W0 : World} (hT : Tab W0) {s_0 : BitVec 64} {r : (List Int)} (h : G.bits_List s_0 = some r) : Fun1 Tryd.prog W0 40 [u64 s_0] (.sl (List.map i64 r)) :=
  (bits_List_own hT h).give (Weak.re [] [] rfl rfl rfl trivial ⟨⟨_, rfl, .lendAll rfl rfl (by simp)⟩, trivial⟩) (by simp)


set_option maxHeartbeats 8000000 in
set_option maxRecDepth 20000 in
theorem bits_Least_ok0 {W0 : World} (hT : Tab W0) {s_0 : BitVec 64} {r : Int} (h : G.bits_Least s_0 = some r) : Fun2 Tryd.prog W0 66 [u64 s_0] (i64 r) .empty := by
  refine fun2_of_awp Tryd.func66 rfl (by kernel_rfl) Tryd.ntmps66 (by simp) ?_
  unfold G.bits_Least at h
  show AWP _ _ _ _ ⟨[(0, u64 s_0)], .empty⟩ _
  refine awp_seqK fun K1 hK1 => ?_
  refine awp_reg rfl ?_
  refine AR.op (r := i64 0) rfl (aop_move (.inr rfl) rfl) ?_
  refine AR.nil ?_
  refine hK1 _ (AWP.weak (Weak.kp (fr' := [(0, u64 s_0)]) ⟨rfl, trivial⟩) ?_)
  clear hK1 K1
  refine awp_seqK fun K2 hK2 => ?_
  refine awp_seqK fun K3 hK3 => ?_
  refine awp_reg rfl ?_
  refine AR.op (r := u64 s_0) rfl (aop_move (.inl rfl) rfl) ?_
  refine AR.op (r := bl (decide (s_0 = 0#64))) rfl (aop_eql64 (a := s_0) (b := 0#64) rfl rfl rfl) ?_
  refine AR.nil ?_
  refine hK3 _ (AWP.weak (Weak.kp (fr' := [(0, u64 s_0), (4, bl (decide (s_0 = 0#64)))]) ⟨rfl, rfl, trivial⟩) ?_)
  clear hK3 K3
  refine awp_cond rfl (fun hb2 => ?_) (fun hb2 => ?_)
  · replace h := Sh.if_t h hb2
    refine awp_seqK fun K4 hK4 => ?_
    refine awp_reg rfl ?_
    refine AR.op (r := i64 (-1)) rfl (aop_move (.inr rfl) rfl) ?_
    refine AR.nil ?_
    refine hK4 _ (AWP.weak (Weak.kp (fr' := [(2, i64 (-1))]) ⟨rfl, trivial⟩) ?_)
    clear hK4 K4
    refine awp_ret ?_
    obtain rfl := Option.some.inj h
    refine ⟨.inr rfl, i64 (-1), rfl, ?_⟩
    exact Weak.re [] [] rfl rfl rfl (trivial) ⟨⟨_, rfl, .same _ (by simp)⟩, trivial⟩
  · replace h := Sh.if_f h hb2
    refine awp_skip ?_
    refine hK2 _ (AWP.weak (Weak.kp (fr' := [(0, u64 s_0)]) ⟨rfl, trivial⟩) ?_)
    clear hK2 K2
    refine awp_seqK fun K5 hK5 => ?_
    refine awp_reg rfl ?_
    refine AR.op (r := u64 s_0) rfl (aop_move (.inl rfl) rfl) ?_
    obtain ⟨r4, hr4, h⟩ := Sh.bind_some' h
    refine AR.op (r := i64 r4) rfl (aop_call1 rfl rfl (by simp) (bits_TrailingZeros64_ok hT hr4)) ?_
    refine AR.op (r := i64 r4) rfl (aop_move (.inr rfl) rfl) ?_
    refine AR.nil ?_
    refine hK5 _ (AWP.weak (Weak.kp (fr' := [(2, i64 r4)]) ⟨rfl, trivial⟩) ?_)
    clear hK5 K5
    refine awp_ret ?_
    obtain rfl := Option.some.inj h
    refine ⟨.inr rfl, i64 r4, rfl, ?_⟩
    exact Weak.re [] [] rfl rfl rfl (trivial) ⟨⟨_, rfl, .same _ (by simp)⟩, trivial⟩
theorem bits_Least_ok {W0 : World} (hT : Tab W0) {s_0 : BitVec 64} {r : Int} (h : G.bits_Least s_0 = some r) : Fun1 Tryd.prog W0 66 [u64 s_0] (i64 r) := Fun1.two (bits_Least_ok0 hT h) (by simp)


set_option maxHeartbeats 8000000 in
set_option maxRecDepth 20000 in
theorem bits_Without_ok0 {W0 : World} (hT : Tab W0) {s_0 : BitVec 64} {i_1 : Int} {r : (BitVec 64)} (h : G.bits_Without s_0 i_1 = some r) : Fun2 Tryd.prog W0 67 [u64 s_0, i64 i_1] (u64 r) .empty := by
  refine fun2_of_awp Tryd.func67 rfl (by kernel_rfl) Tryd.ntmps67 (by simp) ?_
  unfold G.bits_Without at h
  show AWP _ _ _ _ ⟨[(0, u64 s_0), (1, i64 i_1)], .empty⟩ _
  refine awp_seqK fun K1 hK1 => ?_
  refine awp_reg rfl ?_
  refine AR.op (r := u64 0#64) rfl (aop_move (.inr rfl) rfl) ?_
  refine AR.nil ?_
  refine hK1 _ (AWP.weak (Weak.kp (fr' := [(0, u64 s_0), (1, i64 i_1)]) ⟨rfl, rfl, trivial⟩) ?_)
  clear hK1 K1
  refine awp_seqK fun K2 hK2 => ?_
  refine awp_reg rfl ?_
  refine AR.op (r := u64 s_0) rfl (aop_move (.inl rfl) rfl) ?_
  refine AR.op (r := i64 i_1) rfl (aop_move (.inl rfl) rfl) ?_
  obtain ⟨r3, hr3, h⟩ := Sh.bind_some' h
  refine AR.op (r := u64 r3) rfl (aop_call1 rfl rfl (by simp) (bits_bit_ok hT hr3)) ?_
  refine AR.drop (frx := [(5, _), (7, _)]) ⟨rfl, rfl, trivial⟩ ?_
  refine AR.op (r := u64 (s_0 &&& ~~~r3)) rfl (aop_andNot (a := s_0) (b := r3) rfl rfl rfl) ?_
  refine AR.op (r := u64 (s_0 &&& ~~~r3)) rfl (aop_move (.inr rfl) rfl) ?_
  refine AR.nil ?_
  refine hK2 _ (AWP.weak (Weak.kp (fr' := [(4, u64 (s_0 &&& ~~~r3))]) ⟨rfl, trivial⟩) ?_)
  clear hK2 K2
  refine awp_ret ?_
  obtain rfl := Option.some.inj h
  refine ⟨.inr rfl, u64 (s_0 &&& ~~~r3), rfl, ?_⟩
  exact Weak.re [] [] rfl rfl rfl (trivial) ⟨⟨_, rfl, .same _ (by simp)⟩, trivial⟩
theorem bits_Without_ok {W0 : World} (hT : Tab W0) {s_0 : BitVec 64} {i_1 : Int} {r : (BitVec 64)} (h : G.bits_Without s_0 i_1 = some r) : Fun1 Tryd.prog W0 67 [u64 s_0, i64 i_1] (u64 r) := Fun1.two (bits_Without_ok0 hT h) (by simp)

end Wk
