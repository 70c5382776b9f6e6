/- What each function of the bits law does, walked by the abstract rules, the second part. -/
import Derived.Test.YtcfogckbncfpnaaDoorB1
import Derived.Test.YtcfogckbncfpnaaDoorBvPop
import Derived.Test.YtcfogckbncfpnaaDoorRows
import Derived.KernelRfl
open Go Go.Av Go.Proofs
namespace Bits


theorem ones_ok (W0 : World) (s : BitVec 64) : Fun1 Tryd.prog W0 28 [u64 s] (i64 (Bv.list s).length) := by
  refine fun1_of_awp Tryd.func28 rfl (by kernel_rfl) Tryd.ntmps28 (by simp) (by simp) ?_
  obtain ⟨hlt, hpop⟩ := Bv.pop s
  refine awp_seqK fun K1 hK1 => ?_
  refine awp_reg rfl ?_
  refine AR.op rfl (aop_move (.inr rfl) rfl) ?_
  refine AR.nil ?_
  refine hK1 _ (AWP.weak (Weak.kp (fr' := [(0, _), (2, _)]) ⟨rfl, rfl, trivial⟩) ?_)
  clear hK1 K1
  refine awp_seqK fun K2 hK2 => ?_
  refine awp_reg rfl ?_
  refine AR.op rfl (aop_move (.inl rfl) rfl) ?_
  refine AR.op rfl (aop_shr64 rfl rfl rfl (by omega) (by omega)) ?_
  refine AR.op rfl (aop_and (b := 6148914691236517205#64) rfl rfl rfl) ?_
  refine (show AR _ _ _ _ [(0, _), (2, _), (3, _), (4, _), (5, _)] _ _ from ?_)
  refine AR.op rfl (aop_move (.inl rfl) rfl) ?_
  refine AR.op rfl (aop_and (b := 6148914691236517205#64) rfl rfl rfl) ?_
  refine AR.op rfl ((aop_add64 rfl rfl rfl).conv (show u64 _ = u64 (Bv.p1 s) from rfl)) ?_
  refine (show AR _ _ _ _ [(0, _), (2, _), (3, _), (4, _), (5, _), (6, _), (7, _), (8, _)] _ _ from ?_)
  refine AR.op rfl (aop_move (.inr rfl) rfl) ?_
  refine AR.nil ?_
  refine hK2 _ (AWP.weak (Weak.kp (fr' := [(0, _), (2, _)]) ⟨rfl, rfl, trivial⟩) ?_)
  clear hK2 K2
  refine awp_seqK fun K3 hK3 => ?_
  refine awp_reg rfl ?_
  refine AR.op rfl (aop_move (.inl rfl) rfl) ?_
  refine AR.op rfl (aop_shr64 rfl rfl rfl (by omega) (by omega)) ?_
  refine AR.op rfl (aop_and (b := 3689348814741910323#64) rfl rfl rfl) ?_
  refine (show AR _ _ _ _ [(0, _), (2, _), (9, _), (10, _), (11, _)] _ _ from ?_)
  refine AR.op rfl (aop_move (.inl rfl) rfl) ?_
  refine AR.op rfl (aop_and (b := 3689348814741910323#64) rfl rfl rfl) ?_
  refine AR.op rfl ((aop_add64 rfl rfl rfl).conv (show u64 _ = u64 (Bv.p2 (Bv.p1 s)) from rfl)) ?_
  refine (show AR _ _ _ _ [(0, _), (2, _), (9, _), (10, _), (11, _), (12, _), (13, _), (14, _)] _ _ from ?_)
  refine AR.op rfl (aop_move (.inr rfl) rfl) ?_
  refine AR.nil ?_
  refine hK3 _ (AWP.weak (Weak.kp (fr' := [(0, _), (2, _)]) ⟨rfl, rfl, trivial⟩) ?_)
  clear hK3 K3
  refine awp_seqK fun K4 hK4 => ?_
  refine awp_reg rfl ?_
  refine AR.op rfl (aop_move (.inl rfl) rfl) ?_
  refine AR.op rfl (aop_shr64 rfl rfl rfl (by omega) (by omega)) ?_
  refine AR.op rfl (aop_move (.inl rfl) rfl) ?_
  refine (show AR _ _ _ _ [(0, _), (2, _), (15, _), (16, _), (17, _)] _ _ from ?_)
  refine AR.op rfl (aop_add64 rfl rfl rfl) ?_
  refine AR.op rfl ((aop_and (b := 1085102592571150095#64) rfl rfl rfl).conv (show u64 _ = u64 (Bv.p3 (Bv.p2 (Bv.p1 s))) from rfl)) ?_
  refine AR.op rfl (aop_move (.inr rfl) rfl) ?_
  refine AR.nil ?_
  refine hK4 _ (AWP.weak (Weak.kp (fr' := [(0, _), (2, _)]) ⟨rfl, rfl, trivial⟩) ?_)
  clear hK4 K4
  refine awp_seqK fun K5 hK5 => ?_
  refine awp_reg rfl ?_
  refine AR.op rfl (aop_move (.inl rfl) rfl) ?_
  refine AR.op rfl (aop_move (.inl rfl) rfl) ?_
  refine AR.op rfl (aop_shr64 rfl rfl rfl (by omega) (by omega)) ?_
  refine (show AR _ _ _ _ [(0, _), (2, _), (20, _), (21, _), (22, _)] _ _ from ?_)
  refine AR.op rfl ((aop_add64 rfl rfl rfl).conv (show u64 _ = u64 (Bv.p4 (Bv.p3 (Bv.p2 (Bv.p1 s)))) from rfl)) ?_
  refine AR.op rfl (aop_move (.inr rfl) rfl) ?_
  refine AR.nil ?_
  refine hK5 _ (AWP.weak (Weak.kp (fr' := [(0, _), (2, _)]) ⟨rfl, rfl, trivial⟩) ?_)
  clear hK5 K5
  refine awp_seqK fun K6 hK6 => ?_
  refine awp_reg rfl ?_
  refine AR.op rfl (aop_move (.inl rfl) rfl) ?_
  refine AR.op rfl (aop_move (.inl rfl) rfl) ?_
  refine AR.op rfl (aop_shr64 rfl rfl rfl (by omega) (by omega)) ?_
  refine (show AR _ _ _ _ [(0, _), (2, _), (24, _), (25, _), (26, _)] _ _ from ?_)
  refine AR.op rfl ((aop_add64 rfl rfl rfl).conv (show u64 _ = u64 (Bv.p5 (Bv.p4 (Bv.p3 (Bv.p2 (Bv.p1 s))))) from rfl)) ?_
  refine AR.op rfl (aop_move (.inr rfl) rfl) ?_
  refine AR.nil ?_
  refine hK6 _ (AWP.weak (Weak.kp (fr' := [(0, _), (2, _)]) ⟨rfl, rfl, trivial⟩) ?_)
  clear hK6 K6
  refine awp_seqK fun K7 hK7 => ?_
  refine awp_reg rfl ?_
  refine AR.op rfl (aop_move (.inl rfl) rfl) ?_
  refine AR.op rfl (aop_move (.inl rfl) rfl) ?_
  refine AR.op rfl (aop_shr64 rfl rfl rfl (by omega) (by omega)) ?_
  refine (show AR _ _ _ _ [(0, _), (2, _), (28, _), (29, _), (30, _)] _ _ from ?_)
  refine AR.op rfl ((aop_add64 rfl rfl rfl).conv (show u64 _ = u64 (Bv.p6 (Bv.p5 (Bv.p4 (Bv.p3 (Bv.p2 (Bv.p1 s)))))) from rfl)) ?_
  refine AR.op rfl (aop_move (.inr rfl) rfl) ?_
  refine AR.nil ?_
  refine hK7 _ (AWP.weak (Weak.kp (fr' := [(0, _), (2, _)]) ⟨rfl, rfl, trivial⟩) ?_)
  clear hK7 K7
  refine awp_seqK fun K8 hK8 => ?_
  refine awp_reg rfl ?_
  refine AR.op rfl (aop_move (.inl rfl) rfl) ?_
  refine AR.op rfl (aop_conv rfl rfl Tryd.underlying23 Tryd.underlying3 (i64_wrap (by omega) (by omega))) ?_
  refine AR.op rfl (aop_and127 rfl rfl rfl hpop) ?_
  refine (show AR _ _ _ _ [(0, _), (2, _), (32, _), (33, _), (34, _)] _ _ from ?_)
  refine AR.op rfl (aop_move (.inr rfl) rfl) ?_
  refine AR.nil ?_
  refine hK8 _ (AWP.weak (Weak.kp (fr' := [(0, _), (2, _)]) ⟨rfl, rfl, trivial⟩) ?_)
  clear hK8 K8
  refine awp_ret ?_
  refine ⟨.inr rfl, _, rfl, ?_⟩
  rfl

theorem count_ok (W0 : World) (s : BitVec 64) : Fun1 Tryd.prog W0 14 [u64 s] (i64 (Bv.list s).length) := by
  refine fun1_of_awp Tryd.func14 rfl (by kernel_rfl) Tryd.ntmps14 (by simp) (by simp) ?_
  refine awp_seqK fun K1 hK1 => ?_
  refine awp_reg rfl ?_
  refine AR.op rfl (aop_move (.inr rfl) rfl) ?_
  refine AR.nil ?_
  refine hK1 _ (AWP.weak (Weak.kp (fr' := [(0, _), (2, _)]) ⟨rfl, rfl, trivial⟩) ?_)
  clear hK1 K1
  refine awp_seqK fun K2 hK2 => ?_
  refine awp_reg rfl ?_
  refine AR.op rfl (aop_move (.inl rfl) rfl) ?_
  refine AR.op rfl (aop_call1 rfl rfl (by simp) (ones_ok W0 _)) ?_
  refine AR.op rfl (aop_move (.inr rfl) rfl) ?_
  refine AR.nil ?_
  refine hK2 _ (AWP.weak (Weak.kp (fr' := [(0, _), (2, _)]) ⟨rfl, rfl, trivial⟩) ?_)
  clear hK2 K2
  refine awp_ret ?_
  refine ⟨.inr rfl, _, rfl, ?_⟩
  rfl

theorem with2_ok (W0 : World) (s : BitVec 64) (i : Int) : Fun1 Tryd.prog W0 21 [u64 s, i64 i] (u64 (s ||| Bv.bit i)) := by
  refine fun1_of_awp Tryd.func21 rfl (by kernel_rfl) Tryd.ntmps21 (by simp) (by simp) ?_
  refine awp_seqK fun K1 hK1 => ?_
  refine awp_reg rfl ?_
  refine AR.op rfl (aop_move (.inr rfl) rfl) ?_
  refine AR.nil ?_
  refine hK1 _ (AWP.weak (Weak.kp (fr' := [(0, _), (1, _), (4, _)]) ⟨rfl, rfl, rfl, trivial⟩) ?_)
  clear hK1 K1
  refine awp_seqK fun K2 hK2 => ?_
  refine awp_reg rfl ?_
  refine AR.op rfl (aop_move (.inl rfl) rfl) ?_
  refine AR.op rfl (aop_move (.inl rfl) rfl) ?_
  refine AR.op rfl (aop_call1 rfl rfl (by simp) (bit_ok W0 _)) ?_
  refine (show AR _ _ _ _ [(0, _), (1, _), (4, _), (5, _), (6, _), (7, _)] _ _ from ?_)
  refine AR.op rfl (aop_or rfl rfl rfl) ?_
  refine AR.op rfl (aop_move (.inr rfl) rfl) ?_
  refine AR.nil ?_
  refine hK2 _ (AWP.weak (Weak.kp (fr' := [(0, _), (1, _), (4, _)]) ⟨rfl, rfl, rfl, trivial⟩) ?_)
  clear hK2 K2
  refine awp_ret ?_
  refine ⟨.inr rfl, _, rfl, ?_⟩
  rfl

theorem has2_ok (W0 : World) (s : BitVec 64) (i : Int) : Fun1 Tryd.prog W0 15 [u64 s, i64 i] (bl (Bv.has s i)) := by
  refine fun1_of_awp Tryd.func15 rfl (by kernel_rfl) Tryd.ntmps15 (by simp) (by simp) ?_
  refine awp_seqK fun K1 hK1 => ?_
  refine awp_reg rfl ?_
  refine AR.op rfl (aop_move (.inr rfl) rfl) ?_
  refine AR.nil ?_
  refine hK1 _ (AWP.weak (Weak.kp (fr' := [(0, _), (1, _), (4, _)]) ⟨rfl, rfl, rfl, trivial⟩) ?_)
  clear hK1 K1
  refine awp_seqK fun K2 hK2 => ?_
  refine awp_reg rfl ?_
  refine AR.op rfl (aop_move (.inl rfl) rfl) ?_
  refine AR.op rfl (aop_move (.inl rfl) rfl) ?_
  refine AR.op rfl (aop_call1 rfl rfl (by simp) (bit_ok W0 _)) ?_
  refine (show AR _ _ _ _ [(0, _), (1, _), (4, _), (5, _), (6, _), (7, _)] _ _ from ?_)
  refine AR.op rfl (aop_and rfl rfl rfl) ?_
  refine AR.op rfl (aop_neq64 (b := 0#64) rfl rfl rfl) ?_
  refine AR.op rfl (aop_move (.inr rfl) rfl) ?_
  refine AR.nil ?_
  refine hK2 _ (AWP.weak (Weak.kp (fr' := [(0, _), (1, _), (4, _)]) ⟨rfl, rfl, rfl, trivial⟩) ?_)
  clear hK2 K2
  refine awp_ret ?_
  refine ⟨.inr rfl, _, rfl, ?_⟩
  refine (rfl : _ = bl (decide (s &&& Bv.bit i ≠ 0#64))).trans ?_
  rw [Bv.has_bit]

theorem rwithout_ok (W0 : World) (s : BitVec 64) (i : Int) : Fun1 Tryd.prog W0 24 [u64 s, i64 i] (u64 (s &&& ~~~ Bv.bit i)) := by
  refine fun1_of_awp Tryd.func24 rfl (by kernel_rfl) Tryd.ntmps24 (by simp) (by simp) ?_
  refine awp_seqK fun K1 hK1 => ?_
  refine awp_reg rfl ?_
  refine AR.op rfl (aop_move (.inr rfl) rfl) ?_
  refine AR.nil ?_
  refine hK1 _ (AWP.weak (Weak.kp (fr' := [(0, _), (1, _), (4, _)]) ⟨rfl, rfl, rfl, trivial⟩) ?_)
  clear hK1 K1
  refine awp_seqK fun K2 hK2 => ?_
  rcases Bv.without2 s i with hh | ⟨k, hk, hh, rfl, hb⟩
  · skip
    refine awp_reg rfl ?_
    refine AR.op rfl (aop_move (.inl rfl) rfl) ?_
    refine AR.op rfl (aop_move (.inl rfl) rfl) ?_
    refine AR.op rfl ((aop_call1 rfl rfl (by simp) (has_ok W0 s _)).conv (by rw [hh])) ?_
    refine (show AR _ _ _ _ [(0, _), (1, _), (4, _), (6, _), (7, _), (8, _)] _ _ from ?_)
    refine AR.op rfl (aop_move (.inr rfl) rfl) ?_
    refine AR.nil ?_
    refine hK2 _ (AWP.weak (Weak.kp (fr' := [(0, _), (1, _), (4, _), (5, _)]) ⟨rfl, rfl, rfl, rfl, trivial⟩) ?_)
    clear hK2 K2
    refine awp_seqK fun K3 hK3 => ?_
    refine awp_seqK fun K4 hK4 => ?_
    refine awp_reg rfl ?_
    refine AR.op rfl (aop_move (.inl rfl) rfl) ?_
    refine AR.op rfl (aop_not rfl rfl) ?_
    refine AR.nil ?_
    refine hK4 _ (AWP.weak (Weak.kp (fr' := [(0, _), (1, _), (4, _), (5, _), (10, _)]) ⟨rfl, rfl, rfl, rfl, rfl, trivial⟩) ?_)
    clear hK4 K4
    refine awp_cond_t rfl ?_
    refine awp_seqK fun K5 hK5 => ?_
    refine awp_reg rfl ?_
    refine AR.op rfl (aop_move (.inl rfl) rfl) ?_
    refine AR.op rfl (aop_move (.inr rfl) rfl) ?_
    refine AR.nil ?_
    refine hK5 _ (AWP.weak (Weak.kp (fr' := [(0, _), (1, _), (4, _), (5, _), (10, _)]) ⟨rfl, rfl, rfl, rfl, rfl, trivial⟩) ?_)
    clear hK5 K5
    refine awp_ret ?_
    refine ⟨.inr rfl, _, rfl, ?_⟩
    rw [Bv.not_has_and hh]; rfl
  · skip
    refine awp_reg rfl ?_
    refine AR.op rfl (aop_move (.inl rfl) rfl) ?_
    refine AR.op rfl (aop_move (.inl rfl) rfl) ?_
    refine AR.op rfl ((aop_call1 rfl rfl (by simp) (has_ok W0 s _)).conv (by rw [hh])) ?_
    refine (show AR _ _ _ _ [(0, _), (1, _), (4, _), (6, _), (7, _), (8, _)] _ _ from ?_)
    refine AR.op rfl (aop_move (.inr rfl) rfl) ?_
    refine AR.nil ?_
    refine hK2 _ (AWP.weak (Weak.kp (fr' := [(0, _), (1, _), (4, _), (5, _)]) ⟨rfl, rfl, rfl, rfl, trivial⟩) ?_)
    clear hK2 K2
    refine awp_seqK fun K6 hK6 => ?_
    refine awp_seqK fun K7 hK7 => ?_
    refine awp_reg rfl ?_
    refine AR.op rfl (aop_move (.inl rfl) rfl) ?_
    refine AR.op rfl (aop_not rfl rfl) ?_
    refine AR.nil ?_
    refine hK7 _ (AWP.weak (Weak.kp (fr' := [(0, _), (1, _), (4, _), (5, _), (10, _)]) ⟨rfl, rfl, rfl, rfl, rfl, trivial⟩) ?_)
    clear hK7 K7
    refine awp_cond_f rfl ?_
    refine awp_skip ?_
    refine hK6 _ ?_
    clear hK6 K6
    refine awp_seqK fun K8 hK8 => ?_
    refine awp_reg rfl ?_
    refine AR.op rfl (aop_move (.inl rfl) rfl) ?_
    refine AR.op rfl (aop_move (.inl rfl) rfl) ?_
    refine AR.op rfl (aop_call1 rfl rfl (by simp) (power_ok W0 k hk)) ?_
    refine (show AR _ _ _ _ [(0, _), (1, _), (4, _), (5, _), (10, _), (12, _), (13, _), (14, _)] _ _ from ?_)
    refine AR.op rfl (aop_sub64 rfl rfl rfl) ?_
    refine AR.op rfl (aop_move (.inr rfl) rfl) ?_
    refine AR.nil ?_
    refine hK8 _ (AWP.weak (Weak.kp (fr' := [(0, _), (1, _), (4, _), (5, _), (10, _)]) ⟨rfl, rfl, rfl, rfl, rfl, trivial⟩) ?_)
    clear hK8 K8
    refine awp_ret ?_
    refine ⟨.inr rfl, _, rfl, ?_⟩
    refine (rfl : _ = u64 (s - 1#64 <<< k)).trans ?_
    rw [Bv.bit_of hk, Bv.sub_bit hk hb]

theorem rof_ok (W0 : World) (l : List Int) (hl : l.length ≤ 9223372036854775807) : Fun1 Tryd.prog W0 17 [i64s l] (.tuple [u64 (Bv.ofS l).1, i64 (Bv.ofS l).2]) := by
  refine fun1_of_awp Tryd.func17 rfl (by kernel_rfl) Tryd.ntmps17 (by simp) (by simp) ?_
  refine awp_seqK fun K1 hK1 => ?_
  refine awp_reg rfl ?_
  refine AR.op rfl (aop_move (.inr rfl) rfl) ?_
  refine AR.op rfl (aop_move (.inr rfl) rfl) ?_
  refine AR.nil ?_
  refine hK1 _ (AWP.weak (Weak.kp (fr' := [(0, _), (2, _), (3, _)]) ⟨rfl, rfl, rfl, trivial⟩) ?_)
  clear hK1 K1
  refine awp_seqK fun K2 hK2 => ?_
  refine awp_reg rfl ?_
  refine AR.op rfl (aop_move (.inr rfl) rfl) ?_
  refine AR.nil ?_
  refine hK2 _ (AWP.weak (Weak.kp (fr' := [(0, _), (2, _), (3, _), (4, _)]) ⟨rfl, rfl, rfl, rfl, trivial⟩) ?_)
  clear hK2 K2
  refine awp_seqK fun K3 hK3 => ?_
  refine awp_seqK fun K4 hK4 => ?_
  refine awp_reg rfl ?_
  refine AR.op rfl (aop_move (.inr rfl) rfl) ?_
  refine AR.nil ?_
  refine hK4 _ (AWP.weak (Weak.kp (fr' := [(0, _), (2, _), (3, _), (4, _), (5, _)]) ⟨rfl, rfl, rfl, rfl, rfl, trivial⟩) ?_)
  clear hK4 K4
  refine awp_block ?_
  refine awp_loopS (fun (k : Nat) => ⟨[(0, i64s l), (4, u64 (Bv.orAll (l.take k))), (5, i64 k)], .empty⟩) (fun (k : Nat) => k ≤ l.length ∧ ∀ j, j < k → (hj : j < l.length) → Bv.bit l[j] ≠ 0#64) (fun (k : Nat) => l.length - k) (0) (⟨Nat.zero_le _, fun j hj => absurd hj (Nat.not_lt_zero j)⟩) (Weak.keep ⟨rfl, rfl, rfl, trivial⟩) ?_
  rintro k ⟨hk, hall⟩
  refine awp_seqK fun K5 hK5 => ?_
  refine awp_seqK fun K6 hK6 => ?_
  refine awp_reg rfl ?_
  refine AR.op rfl (aop_move (.inl rfl) rfl) ?_
  refine AR.op rfl (aop_move (.inl rfl) rfl) ?_
  refine AR.op rfl ((aop_len rfl rfl rfl el29).conv (by rw [List.length_map])) ?_
  refine (show AR _ _ _ _ [(0, _), (4, _), (5, _), (6, _), (7, _), (8, _)] _ _ from ?_)
  refine AR.op rfl (aop_lss rfl rfl rfl) ?_
  refine AR.nil ?_
  refine hK6 _ (AWP.weak (Weak.kp (fr' := [(0, _), (4, _), (5, _), (9, _)]) ⟨rfl, rfl, rfl, rfl, trivial⟩) ?_)
  clear hK6 K6
  refine awp_cond rfl (fun h => ?_) (fun h => ?_)
  · have hlt : k < l.length := by have := of_decide_eq_true h; omega
    refine awp_skip ?_
    refine hK5 _ ?_
    clear hK5 K5
    refine awp_seqK fun K7 hK7 => ?_
    refine awp_block ?_
    refine awp_seqK fun K8 hK8 => ?_
    refine awp_seqK fun K9 hK9 => ?_
    refine awp_reg rfl ?_
    refine AR.op rfl (aop_move (.inl rfl) rfl) ?_
    refine AR.op rfl (aop_move (.inl rfl) rfl) ?_
    refine AR.op rfl (aop_index_sl rfl rfl (.inl rfl) rfl el29 (rfl) (get_i64s l hlt) (rfl)) ?_
    refine (show AR _ _ _ _ [(0, _), (4, _), (5, _), (9, _), (12, _), (13, _), (14, _)] _ _ from ?_)
    first | refine AR.op rfl (aop_load_pp rfl rfl sz3 (rfl)) ?_ | refine AR.op rfl (aop_load_ref rfl rfl rfl (rfl) sz3 (rfl)) ?_
    refine AR.op rfl (aop_call1 rfl rfl (by simp) (in_ok W0 _)) ?_
    refine AR.op rfl (aop_not rfl rfl) ?_
    refine AR.nil ?_
    refine hK9 _ (AWP.weak (Weak.kp (fr' := [(0, _), (4, _), (5, _), (9, _), (17, _)]) ⟨rfl, rfl, rfl, rfl, rfl, trivial⟩) ?_)
    clear hK9 K9
    refine awp_cond rfl (fun h => ?_) (fun h => ?_)
    · have he : Bv.bit l[k] = 0#64 := Bv.bit_out (of_not_t h)
      refine awp_seqK fun K10 hK10 => ?_
      refine awp_reg rfl ?_
      refine AR.op rfl (aop_move (.inr rfl) rfl) ?_
      refine AR.op rfl (aop_move (.inr rfl) rfl) ?_
      refine AR.nil ?_
      refine hK10 _ (AWP.weak (Weak.kp (fr' := [(0, _), (2, _), (3, _), (4, _), (5, _), (9, _), (17, _)]) ⟨rfl, rfl, rfl, rfl, rfl, rfl, rfl, trivial⟩) ?_)
      clear hK10 K10
      refine awp_ret ?_
      refine ⟨.inr rfl, _, rfl, ?_⟩
      rw [Bv.ofS_no hlt he]; rfl
    · have hne : Bv.bit l[k] ≠ 0#64 := Bv.bit_in (of_not_f h)
      refine awp_skip ?_
      refine hK8 _ ?_
      clear hK8 K8
      refine awp_reg rfl ?_
      refine AR.op rfl (aop_move (.inl rfl) rfl) ?_
      refine AR.op rfl (aop_move (.inl rfl) rfl) ?_
      refine AR.op rfl (aop_move (.inl rfl) rfl) ?_
      refine (show AR _ _ _ _ [(0, _), (4, _), (5, _), (9, _), (17, _), (18, _), (19, _), (20, _)] _ _ from ?_)
      refine AR.op rfl (aop_index_sl rfl rfl (.inl rfl) rfl el29 (rfl) (get_i64s l hlt) (rfl)) ?_
      first | refine AR.op rfl (aop_load_pp rfl rfl sz3 (rfl)) ?_ | refine AR.op rfl (aop_load_ref rfl rfl rfl (rfl) sz3 (rfl)) ?_
      refine AR.op rfl (aop_call1 rfl rfl (by simp) (with_ok W0 _ _)) ?_
      refine (show AR _ _ _ _ [(0, _), (4, _), (5, _), (9, _), (17, _), (18, _), (19, _), (20, _), (21, _), (22, _), (23, _)] _ _ from ?_)
      refine AR.op rfl (aop_move (.inr rfl) rfl) ?_
      refine AR.nil ?_
      refine hK7 _ (AWP.weak (Weak.kp (fr' := [(0, _), (4, _), (5, _), (9, _), (17, _)]) ⟨rfl, rfl, rfl, rfl, rfl, trivial⟩) ?_)
      clear hK7 K7
      refine awp_reg rfl ?_
      refine AR.op rfl (aop_move (.inl rfl) rfl) ?_
      refine AR.op rfl (aop_add rfl rfl rfl (i64_wrap (by omega) (by omega))) ?_
      refine AR.op rfl (aop_move (.inr rfl) rfl) ?_
      refine AR.nil ?_
      refine ⟨k + 1, ⟨hlt, fun j hj hl => ?_⟩, by omega, Weak.keep ⟨rfl, ?_, rfl, trivial⟩⟩
      · rcases Nat.lt_or_ge j k with h1 | h1
        · exact hall j h1 hl
        · have : j = k := by omega
          subst this
          exact hne
      · rw [Bv.orAll_take l k hlt]; rfl
  · have hge : k = l.length := by have := of_decide_eq_false h; omega
    subst hge
    refine awp_exit ?_
    refine hK3 _ ?_
    clear hK5 K5
    clear hK3 K3
    refine awp_seqK fun K11 hK11 => ?_
    refine awp_reg rfl ?_
    refine AR.op rfl (aop_move (.inl rfl) rfl) ?_
    refine AR.op rfl (aop_move (.inr rfl) rfl) ?_
    refine AR.op rfl (aop_move (.inr rfl) rfl) ?_
    refine AR.nil ?_
    refine hK11 _ (AWP.weak (Weak.kp (fr' := [(0, _), (2, _), (3, _), (4, _), (5, _), (9, _)]) ⟨rfl, rfl, rfl, rfl, rfl, rfl, trivial⟩) ?_)
    clear hK11 K11
    refine awp_ret ?_
    refine ⟨.inr rfl, _, rfl, ?_⟩
    rw [Bv.ofS_ok (fun j hj => hall j hj hj), List.take_length]; rfl

theorem rleast_ok (W0 : World) (s : BitVec 64) : Fun1 Tryd.prog W0 20 [u64 s] (i64 (Bv.least s)) := by
  refine fun1_of_awp Tryd.func20 rfl (by kernel_rfl) Tryd.ntmps20 (by simp) (by simp) ?_
  refine awp_seqK fun K1 hK1 => ?_
  refine awp_reg rfl ?_
  refine AR.op rfl (aop_move (.inr rfl) rfl) ?_
  refine AR.nil ?_
  refine hK1 _ (AWP.weak (Weak.kp (fr' := [(0, _), (2, _)]) ⟨rfl, rfl, trivial⟩) ?_)
  clear hK1 K1
  refine awp_seqK fun K2 hK2 => ?_
  refine awp_reg rfl ?_
  refine AR.op rfl (aop_move (.inl rfl) rfl) ?_
  refine AR.op rfl (aop_call1 rfl rfl (by simp) (rlist_ok W0 _)) ?_
  refine AR.op rfl (aop_move (.inr rfl) rfl) ?_
  refine AR.nil ?_
  refine hK2 _ (AWP.weak (Weak.kp (fr' := [(0, _), (2, _), (3, _)]) ⟨rfl, rfl, rfl, trivial⟩) ?_)
  clear hK2 K2
  refine awp_seqK fun K3 hK3 => ?_
  refine awp_seqK fun K4 hK4 => ?_
  refine awp_reg rfl ?_
  refine AR.op rfl (aop_move (.inl rfl) rfl) ?_
  refine AR.op rfl ((aop_len rfl rfl rfl el29).conv (by rw [List.length_map])) ?_
  refine AR.op rfl (aop_eql rfl rfl rfl) ?_
  refine AR.nil ?_
  refine hK4 _ (AWP.weak (Weak.kp (fr' := [(0, _), (2, _), (3, _), (8, _)]) ⟨rfl, rfl, rfl, rfl, trivial⟩) ?_)
  clear hK4 K4
  refine awp_cond rfl (fun h => ?_) (fun h => ?_)
  · have hz : (Bv.list s).length = 0 := by have := of_decide_eq_true h; omega
    refine awp_seqK fun K5 hK5 => ?_
    refine awp_reg rfl ?_
    refine AR.op rfl (aop_move (.inr rfl) rfl) ?_
    refine AR.nil ?_
    refine hK5 _ (AWP.weak (Weak.kp (fr' := [(0, _), (2, _), (3, _), (8, _)]) ⟨rfl, rfl, rfl, rfl, trivial⟩) ?_)
    clear hK5 K5
    refine awp_ret ?_
    refine ⟨.inr rfl, _, rfl, ?_⟩
    rw [Bv.least_nil hz]; rfl
  · have hpos : 0 < (Bv.list s).length := by have := of_decide_eq_false h; omega
    refine awp_skip ?_
    refine hK3 _ ?_
    clear hK3 K3
    refine awp_seqK fun K6 hK6 => ?_
    refine awp_reg rfl ?_
    refine AR.op rfl (aop_move (.inl rfl) rfl) ?_
    refine AR.op rfl (aop_index_sl rfl rfl (.inl rfl) rfl el29 (rfl) (get_i64l _ (k := 0) hpos) (rfl)) ?_
    first | refine AR.op rfl (aop_load_pp rfl rfl sz3 (rfl)) ?_ | refine AR.op rfl (aop_load_ref rfl rfl rfl (rfl) sz3 (rfl)) ?_
    refine (show AR _ _ _ _ [(0, _), (2, _), (3, _), (8, _), (9, _), (10, _), (11, _)] _ _ from ?_)
    refine AR.op rfl (aop_move (.inr rfl) rfl) ?_
    refine AR.nil ?_
    refine hK6 _ (AWP.weak (Weak.kp (fr' := [(0, _), (2, _), (3, _), (8, _)]) ⟨rfl, rfl, rfl, rfl, trivial⟩) ?_)
    clear hK6 K6
    refine awp_ret ?_
    refine ⟨.inr rfl, _, rfl, ?_⟩
    rw [Bv.least_first hpos]; rfl

end Bits
