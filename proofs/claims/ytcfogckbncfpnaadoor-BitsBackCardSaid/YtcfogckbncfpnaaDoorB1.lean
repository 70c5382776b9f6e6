/- What each function of the bits law does, walked by the abstract rules. -/
import Derived.Test.YtcfogckbncfpnaaDoorAvMore
import Derived.Test.YtcfogckbncfpnaaDoorBvPop
import Derived.Test.YtcfogckbncfpnaaDoorRows
import Derived.KernelRfl
open Go Go.Av Go.Proofs
namespace Bits
theorem ar42 : arT Tryd.prog 42 = some (64, 1) := by kernel_rfl
theorem el22 : elT Tryd.prog 22 = some (23, 1, 8) := by kernel_rfl
theorem el29 : elT Tryd.prog 29 = some (3, 1, 8) := by kernel_rfl
theorem et22 : ElT Tryd.prog 22 23 1 8 (.int .u64 0) := ⟨by kernel_rfl, by kernel_rfl, rfl, by simp [Value.cells, Value.oneCell'], by decide, by decide⟩
theorem et29 : ElT Tryd.prog 29 3 1 8 (.int .i64 0) := ⟨by kernel_rfl, by kernel_rfl, rfl, by simp [Value.cells, Value.oneCell'], by decide, by decide⟩
theorem sz23 : szT Tryd.prog 23 = some (1, false) := by kernel_rfl
theorem sz3 : szT Tryd.prog 3 = some (1, false) := by kernel_rfl
theorem sz5 : szT Tryd.prog 5 = some (1, false) := by kernel_rfl
theorem ze22 : (zrT Tryd.prog 23).isSome = true := by kernel_rfl
theorem ze29 : (zrT Tryd.prog 3).isSome = true := by kernel_rfl

theorem lt3 (i : Int) : i < 0 ∨ (¬ i < 0 ∧ i ≥ 64) ∨ (¬ i < 0 ∧ ¬ i ≥ 64) := by omega
theorem ge3 (i : Int) : ¬ i ≥ 0 ∨ (i ≥ 0 ∧ ¬ i ≤ 63) ∨ (i ≥ 0 ∧ i ≤ 63) := by omega

theorem bit_ok (W0 : World) (i : Int) : Fun1 Tryd.prog W0 27 [i64 i] (u64 (Bv.bit i)) := by
  refine fun1_of_awp Tryd.func27 rfl (by kernel_rfl) Tryd.ntmps27 (by simp) (by simp) ?_
  refine awp_seqK fun K1 hK1 => ?_
  refine awp_reg rfl ?_
  refine AR.op rfl (aop_move (.inr rfl) rfl) ?_
  refine AR.nil ?_
  refine hK1 _ (AWP.weak (Weak.kp (fr' := [(0, _), (2, _)]) ⟨rfl, rfl, trivial⟩) ?_)
  clear hK1 K1
  refine awp_seqK fun K2 hK2 => ?_
  refine awp_seqK fun K3 hK3 => ?_
  rcases lt3 i with h0 | ⟨h0, h1⟩ | ⟨h0, h1⟩
  · skip
    refine awp_reg rfl ?_
    refine AR.op rfl (aop_move (.inl rfl) rfl) ?_
    refine AR.op rfl ((aop_lss rfl rfl rfl).tt (h0)) ?_
    refine AR.op rfl (aop_move (.inl rfl) rfl) ?_
    refine (show AR _ _ _ _ [(0, _), (2, _), (3, _), (4, _), (5, _)] _ _ from ?_)
    refine AR.skip rfl ?_
    refine AR.skip rfl ?_
    refine AR.op rfl (aop_pick rfl rfl rfl) ?_
    refine AR.nil ?_
    refine hK3 _ (AWP.weak (Weak.kp (fr' := [(0, _), (2, _), (8, _)]) ⟨rfl, rfl, rfl, trivial⟩) ?_)
    clear hK3 K3
    refine awp_cond_t rfl ?_
    refine awp_seqK fun K4 hK4 => ?_
    refine awp_reg rfl ?_
    refine AR.op rfl (aop_move (.inr rfl) rfl) ?_
    refine AR.nil ?_
    refine hK4 _ (AWP.weak (Weak.kp (fr' := [(0, _), (2, _), (8, _)]) ⟨rfl, rfl, rfl, trivial⟩) ?_)
    clear hK4 K4
    refine awp_ret ?_
    refine ⟨.inr rfl, _, rfl, ?_⟩
    rw [Bv.bit_out (by omega)]; rfl
  · skip
    refine awp_reg rfl ?_
    refine AR.op rfl (aop_move (.inl rfl) rfl) ?_
    refine AR.op rfl ((aop_lss rfl rfl rfl).ff (h0)) ?_
    refine AR.op rfl (aop_move (.inl rfl) rfl) ?_
    refine (show AR _ _ _ _ [(0, _), (2, _), (3, _), (4, _), (5, _)] _ _ from ?_)
    refine AR.op rfl (aop_move (.inl rfl) rfl) ?_
    refine AR.op rfl ((aop_geq rfl rfl rfl).tt (h1)) ?_
    refine AR.op rfl (aop_pick rfl rfl rfl) ?_
    refine AR.nil ?_
    refine hK3 _ (AWP.weak (Weak.kp (fr' := [(0, _), (2, _), (8, _)]) ⟨rfl, rfl, rfl, trivial⟩) ?_)
    clear hK3 K3
    refine awp_cond_t rfl ?_
    refine awp_seqK fun K5 hK5 => ?_
    refine awp_reg rfl ?_
    refine AR.op rfl (aop_move (.inr rfl) rfl) ?_
    refine AR.nil ?_
    refine hK5 _ (AWP.weak (Weak.kp (fr' := [(0, _), (2, _), (8, _)]) ⟨rfl, rfl, rfl, trivial⟩) ?_)
    clear hK5 K5
    refine awp_ret ?_
    refine ⟨.inr rfl, _, rfl, ?_⟩
    rw [Bv.bit_out (by omega)]; rfl
  · skip
    refine awp_reg rfl ?_
    refine AR.op rfl (aop_move (.inl rfl) rfl) ?_
    refine AR.op rfl ((aop_lss rfl rfl rfl).ff (h0)) ?_
    refine AR.op rfl (aop_move (.inl rfl) rfl) ?_
    refine (show AR _ _ _ _ [(0, _), (2, _), (3, _), (4, _), (5, _)] _ _ from ?_)
    refine AR.op rfl (aop_move (.inl rfl) rfl) ?_
    refine AR.op rfl ((aop_geq rfl rfl rfl).ff (h1)) ?_
    refine AR.op rfl (aop_pick rfl rfl rfl) ?_
    refine AR.nil ?_
    refine hK3 _ (AWP.weak (Weak.kp (fr' := [(0, _), (2, _), (8, _)]) ⟨rfl, rfl, rfl, trivial⟩) ?_)
    clear hK3 K3
    refine awp_cond_f rfl ?_
    refine awp_skip ?_
    refine hK2 _ ?_
    clear hK2 K2
    refine awp_seqK fun K6 hK6 => ?_
    refine awp_reg rfl ?_
    refine AR.op rfl (aop_move (.inl rfl) rfl) ?_
    refine AR.op rfl (aop_shl64 (a := 1#64) rfl rfl rfl (by omega) (by omega)) ?_
    refine AR.op rfl (aop_move (.inr rfl) rfl) ?_
    refine AR.nil ?_
    refine hK6 _ (AWP.weak (Weak.kp (fr' := [(0, _), (2, _), (8, _)]) ⟨rfl, rfl, rfl, trivial⟩) ?_)
    clear hK6 K6
    refine awp_ret ?_
    refine ⟨.inr rfl, _, rfl, ?_⟩
    rw [show Bv.bit i = 1#64 <<< i.toNat from if_pos (by omega)]; rfl

theorem in_ok (W0 : World) (i : Int) : Fun1 Tryd.prog W0 29 [i64 i] (bl (decide (0 ≤ i ∧ i ≤ 63))) := by
  refine fun1_of_awp Tryd.func29 rfl (by kernel_rfl) Tryd.ntmps29 (by simp) (by simp) ?_
  refine awp_seqK fun K1 hK1 => ?_
  refine awp_reg rfl ?_
  refine AR.op rfl (aop_move (.inr rfl) rfl) ?_
  refine AR.nil ?_
  refine hK1 _ (AWP.weak (Weak.kp (fr' := [(0, _), (2, _)]) ⟨rfl, rfl, trivial⟩) ?_)
  clear hK1 K1
  refine awp_seqK fun K2 hK2 => ?_
  rcases ge3 i with h0 | ⟨h0, h1⟩ | ⟨h0, h1⟩
  · skip
    refine awp_reg rfl ?_
    refine AR.op rfl (aop_move (.inl rfl) rfl) ?_
    refine AR.op rfl ((aop_geq rfl rfl rfl).ff (h0)) ?_
    refine AR.op rfl (aop_move (.inl rfl) rfl) ?_
    refine (show AR _ _ _ _ [(0, _), (2, _), (3, _), (4, _), (5, _)] _ _ from ?_)
    refine AR.skip rfl ?_
    refine AR.skip rfl ?_
    refine AR.op rfl (aop_pick rfl rfl rfl) ?_
    refine (show AR _ _ _ _ [(0, _), (2, _), (3, _), (4, _), (5, _), (6, _), (7, _), (8, _)] _ _ from ?_)
    refine AR.op rfl (aop_move (.inr rfl) rfl) ?_
    refine AR.nil ?_
    refine hK2 _ (AWP.weak (Weak.kp (fr' := [(0, _), (2, _)]) ⟨rfl, rfl, trivial⟩) ?_)
    clear hK2 K2
    refine awp_ret ?_
    refine ⟨.inr rfl, _, rfl, ?_⟩
    rw [decide_eq_false (by omega)]; rfl
  · skip
    refine awp_reg rfl ?_
    refine AR.op rfl (aop_move (.inl rfl) rfl) ?_
    refine AR.op rfl ((aop_geq rfl rfl rfl).tt (h0)) ?_
    refine AR.op rfl (aop_move (.inl rfl) rfl) ?_
    refine (show AR _ _ _ _ [(0, _), (2, _), (3, _), (4, _), (5, _)] _ _ from ?_)
    refine AR.op rfl (aop_move (.inl rfl) rfl) ?_
    refine AR.op rfl ((aop_leq rfl rfl rfl).ff (h1)) ?_
    refine AR.op rfl (aop_pick rfl rfl rfl) ?_
    refine (show AR _ _ _ _ [(0, _), (2, _), (3, _), (4, _), (5, _), (6, _), (7, _), (8, _)] _ _ from ?_)
    refine AR.op rfl (aop_move (.inr rfl) rfl) ?_
    refine AR.nil ?_
    refine hK2 _ (AWP.weak (Weak.kp (fr' := [(0, _), (2, _)]) ⟨rfl, rfl, trivial⟩) ?_)
    clear hK2 K2
    refine awp_ret ?_
    refine ⟨.inr rfl, _, rfl, ?_⟩
    rw [decide_eq_false (by omega)]; rfl
  · skip
    refine awp_reg rfl ?_
    refine AR.op rfl (aop_move (.inl rfl) rfl) ?_
    refine AR.op rfl ((aop_geq rfl rfl rfl).tt (h0)) ?_
    refine AR.op rfl (aop_move (.inl rfl) rfl) ?_
    refine (show AR _ _ _ _ [(0, _), (2, _), (3, _), (4, _), (5, _)] _ _ from ?_)
    refine AR.op rfl (aop_move (.inl rfl) rfl) ?_
    refine AR.op rfl ((aop_leq rfl rfl rfl).tt (h1)) ?_
    refine AR.op rfl (aop_pick rfl rfl rfl) ?_
    refine (show AR _ _ _ _ [(0, _), (2, _), (3, _), (4, _), (5, _), (6, _), (7, _), (8, _)] _ _ from ?_)
    refine AR.op rfl (aop_move (.inr rfl) rfl) ?_
    refine AR.nil ?_
    refine hK2 _ (AWP.weak (Weak.kp (fr' := [(0, _), (2, _)]) ⟨rfl, rfl, trivial⟩) ?_)
    clear hK2 K2
    refine awp_ret ?_
    refine ⟨.inr rfl, _, rfl, ?_⟩
    rw [decide_eq_true (by omega)]; rfl

theorem power_ok (W0 : World) (n : Nat) (hn : n < 64) : Fun1 Tryd.prog W0 30 [i64 n] (u64 (1#64 <<< n)) := by
  refine fun1_of_awp Tryd.func30 rfl (by kernel_rfl) Tryd.ntmps30 (by simp) (by simp) ?_
  refine awp_seqK fun K1 hK1 => ?_
  refine awp_reg rfl ?_
  refine AR.op rfl (aop_move (.inr rfl) rfl) ?_
  refine AR.nil ?_
  refine hK1 _ (AWP.weak (Weak.kp (fr' := [(0, _), (2, _)]) ⟨rfl, rfl, trivial⟩) ?_)
  clear hK1 K1
  refine awp_seqK fun K2 hK2 => ?_
  refine awp_reg rfl ?_
  refine AR.op rfl (aop_move (.inr rfl) rfl) ?_
  refine AR.nil ?_
  refine hK2 _ (AWP.weak (Weak.kp (fr' := [(0, _), (2, _), (3, _)]) ⟨rfl, rfl, rfl, trivial⟩) ?_)
  clear hK2 K2
  refine awp_seqK fun K3 hK3 => ?_
  refine awp_seqK fun K4 hK4 => ?_
  refine awp_reg rfl ?_
  refine AR.op rfl (aop_move (.inr rfl) rfl) ?_
  refine AR.nil ?_
  refine hK4 _ (AWP.weak (Weak.kp (fr' := [(0, _), (2, _), (3, _), (4, _)]) ⟨rfl, rfl, rfl, rfl, trivial⟩) ?_)
  clear hK4 K4
  refine awp_block ?_
  refine awp_loopS (fun (k : Nat) => ⟨[(0, i64 n), (3, u64 (1#64 <<< k)), (4, i64 k)], .empty⟩) (fun (k : Nat) => k ≤ n) (fun (k : Nat) => n - k) (0) (by simp) (Weak.keep ⟨rfl, rfl, rfl, trivial⟩) ?_
  intro k hk
  refine awp_seqK fun K5 hK5 => ?_
  refine awp_seqK fun K6 hK6 => ?_
  refine awp_reg rfl ?_
  refine AR.op rfl (aop_move (.inl rfl) rfl) ?_
  refine AR.op rfl (aop_move (.inl rfl) rfl) ?_
  refine AR.op rfl (aop_lss rfl rfl rfl) ?_
  refine AR.nil ?_
  refine hK6 _ (AWP.weak (Weak.kp (fr' := [(0, _), (3, _), (4, _), (7, _)]) ⟨rfl, rfl, rfl, rfl, trivial⟩) ?_)
  clear hK6 K6
  refine awp_cond rfl (fun h => ?_) (fun h => ?_)
  · have hlt : k < n := by simpa using h
    refine awp_skip ?_
    refine hK5 _ ?_
    clear hK5 K5
    refine awp_seqK fun K7 hK7 => ?_
    refine awp_block ?_
    refine awp_reg rfl ?_
    refine AR.op rfl (aop_move (.inl rfl) rfl) ?_
    refine AR.op rfl (aop_move (.inl rfl) rfl) ?_
    refine AR.op rfl (aop_add64 rfl rfl rfl) ?_
    refine (show AR _ _ _ _ [(0, _), (3, _), (4, _), (7, _), (10, _), (11, _), (12, _)] _ _ from ?_)
    refine AR.op rfl (aop_move (.inr rfl) rfl) ?_
    refine AR.nil ?_
    refine hK7 _ (AWP.weak (Weak.kp (fr' := [(0, _), (3, _), (4, _), (7, _)]) ⟨rfl, rfl, rfl, rfl, trivial⟩) ?_)
    clear hK7 K7
    refine awp_reg rfl ?_
    refine AR.op rfl (aop_move (.inl rfl) rfl) ?_
    refine AR.op rfl (aop_add rfl rfl rfl (i64_wrap (by omega) (by omega))) ?_
    refine AR.op rfl (aop_move (.inr rfl) rfl) ?_
    refine AR.nil ?_
    refine ⟨k + 1, by omega, by omega, Weak.keep ⟨rfl, ?_, rfl, trivial⟩⟩
    rw [show 1#64 <<< (k + 1) = 1#64 <<< k + 1#64 <<< k from Bv.shl_succ k]; rfl
  · have hge : k = n := Nat.le_antisymm hk (by simpa using h)
    subst hge
    refine awp_exit ?_
    refine hK3 _ ?_
    clear hK5 K5
    clear hK3 K3
    refine awp_seqK fun K8 hK8 => ?_
    refine awp_reg rfl ?_
    refine AR.op rfl (aop_move (.inl rfl) rfl) ?_
    refine AR.op rfl (aop_move (.inr rfl) rfl) ?_
    refine AR.nil ?_
    refine hK8 _ (AWP.weak (Weak.kp (fr' := [(0, _), (2, _), (3, _), (4, _), (7, _)]) ⟨rfl, rfl, rfl, rfl, rfl, trivial⟩) ?_)
    clear hK8 K8
    refine awp_ret ?_
    refine ⟨.inr rfl, _, rfl, ?_⟩
    rfl

theorem has_ok (W0 : World) (s : BitVec 64) (i : Int) : Fun1 Tryd.prog W0 25 [u64 s, i64 i] (bl (Bv.has s i)) := by
  refine fun1_of_awp Tryd.func25 rfl (by kernel_rfl) Tryd.ntmps25 (by simp) (by simp) ?_
  refine awp_seqK fun K1 hK1 => ?_
  refine awp_reg rfl ?_
  refine AR.op rfl (aop_move (.inr rfl) rfl) ?_
  refine AR.nil ?_
  refine hK1 _ (AWP.weak (Weak.kp (fr' := [(0, _), (1, _), (4, _)]) ⟨rfl, rfl, rfl, trivial⟩) ?_)
  clear hK1 K1
  refine awp_seqK fun K2 hK2 => ?_
  refine awp_seqK fun K3 hK3 => ?_
  refine awp_reg rfl ?_
  refine AR.op rfl (aop_move (.inl rfl) rfl) ?_
  refine AR.op rfl (aop_call1 rfl rfl (by simp) (in_ok W0 i)) ?_
  refine AR.op rfl (aop_not rfl rfl) ?_
  refine AR.nil ?_
  refine hK3 _ (AWP.weak (Weak.kp (fr' := [(0, _), (1, _), (4, _), (7, _)]) ⟨rfl, rfl, rfl, rfl, trivial⟩) ?_)
  clear hK3 K3
  refine awp_cond rfl (fun h => ?_) (fun h => ?_)
  · have ho : ¬ (0 ≤ i ∧ i ≤ 63) := of_not_t h
    refine awp_seqK fun K4 hK4 => ?_
    refine awp_reg rfl ?_
    refine AR.op rfl (aop_move (.inr rfl) rfl) ?_
    refine AR.nil ?_
    refine hK4 _ (AWP.weak (Weak.kp (fr' := [(0, _), (1, _), (4, _), (7, _)]) ⟨rfl, rfl, rfl, rfl, trivial⟩) ?_)
    clear hK4 K4
    refine awp_ret ?_
    refine ⟨.inr rfl, _, rfl, ?_⟩
    rw [Bv.has_out ho]; rfl
  · have ho : 0 ≤ i ∧ i ≤ 63 := of_not_f h
    obtain ⟨k, rfl⟩ := Int.eq_ofNat_of_zero_le ho.1
    have hk : k < 64 := by omega
    refine awp_skip ?_
    refine hK2 _ ?_
    clear hK2 K2
    refine awp_seqK fun K5 hK5 => ?_
    refine awp_reg rfl ?_
    refine AR.op rfl (aop_move (.inl rfl) rfl) ?_
    refine AR.op rfl (aop_move (.inl rfl) rfl) ?_
    refine AR.op rfl (aop_call1 rfl rfl (by simp) (power_ok W0 k hk)) ?_
    refine (show AR _ _ _ _ [(0, _), (1, _), (4, _), (7, _), (8, _), (9, _), (10, _)] _ _ from ?_)
    refine AR.op rfl (aop_quo64 rfl rfl rfl (Bv.shl_ne hk)) ?_
    refine AR.op rfl (aop_rem64 (b := 2#64) rfl rfl rfl (by decide)) ?_
    refine AR.op rfl (aop_eql64 (b := 1#64) rfl rfl rfl) ?_
    refine (show AR _ _ _ _ [(0, _), (1, _), (4, _), (7, _), (8, _), (9, _), (10, _), (11, _), (12, _), (13, _)] _ _ from ?_)
    refine AR.op rfl (aop_move (.inr rfl) rfl) ?_
    refine AR.nil ?_
    refine hK5 _ (AWP.weak (Weak.kp (fr' := [(0, _), (1, _), (4, _), (7, _)]) ⟨rfl, rfl, rfl, rfl, trivial⟩) ?_)
    clear hK5 K5
    refine awp_ret ?_
    refine ⟨.inr rfl, _, rfl, ?_⟩
    show bl (decide ((s / 1#64 <<< k) % 2#64 = 1#64)) = _
    rw [Bv.has_of hk]
    congr 2
    cases hb : s.getLsbD k
    · exact decide_eq_false fun h => by rw [Bv.quo_rem hk, hb] at h; cases h
    · exact decide_eq_true ((Bv.quo_rem hk).2 hb)

theorem with_ok (W0 : World) (s : BitVec 64) (i : Int) : Fun1 Tryd.prog W0 22 [u64 s, i64 i] (u64 (s ||| Bv.bit i)) := by
  refine fun1_of_awp Tryd.func22 rfl (by kernel_rfl) Tryd.ntmps22 (by simp) (by simp) ?_
  refine awp_seqK fun K1 hK1 => ?_
  refine awp_reg rfl ?_
  refine AR.op rfl (aop_move (.inr rfl) rfl) ?_
  refine AR.nil ?_
  refine hK1 _ (AWP.weak (Weak.kp (fr' := [(0, _), (1, _), (4, _)]) ⟨rfl, rfl, rfl, trivial⟩) ?_)
  clear hK1 K1
  refine awp_seqK fun K2 hK2 => ?_
  rcases Bv.with3 s i with hh | ⟨hh, ho⟩ | ⟨k, hk, hh, rfl, hb⟩
  · skip
    refine awp_reg rfl ?_
    refine AR.op rfl (aop_move (.inl rfl) rfl) ?_
    refine AR.op rfl (aop_move (.inl rfl) rfl) ?_
    refine AR.op rfl ((aop_call1 rfl rfl (by simp) (has_ok W0 s _)).conv (by rw [hh])) ?_
    refine (show AR _ _ _ _ [(0, _), (1, _), (4, _), (6, _), (7, _), (8, _)] _ _ from ?_)
    refine AR.op rfl (aop_move (.inr rfl) rfl) ?_
    refine AR.nil ?_
    refine hK2 _ (AWP.weak (Weak.kp (fr' := [(0, _), (1, _), (4, _), (5, _)]) ⟨rfl, rfl, rfl, rfl, trivial⟩) ?_)
    clear hK2 K2
    refine awp_seqK fun K3 hK3 => ?_
    refine awp_seqK fun K4 hK4 => ?_
    refine awp_reg rfl ?_
    refine AR.op rfl (aop_move (.inl rfl) rfl) ?_
    refine AR.op rfl (aop_move (.inl rfl) rfl) ?_
    first | refine AR.op rfl (aop_move (.inl rfl) rfl) ?_ | refine AR.skip rfl ?_
    refine (show AR _ _ _ _ [(0, _), (1, _), (4, _), (5, _), (9, _), (10, _), (11, _)] _ _ from ?_)
    first | refine AR.op rfl (aop_call1 rfl rfl (by simp) (in_ok W0 _)) ?_ | refine AR.skip rfl ?_
    first | refine AR.op rfl (aop_not rfl rfl) ?_ | refine AR.skip rfl ?_
    refine AR.op rfl (aop_pick rfl rfl rfl) ?_
    refine AR.nil ?_
    refine hK4 _ (AWP.weak (Weak.kp (fr' := [(0, _), (1, _), (4, _), (5, _), (14, _)]) ⟨rfl, rfl, rfl, rfl, rfl, trivial⟩) ?_)
    clear hK4 K4
    refine awp_cond_t rfl ?_
    refine awp_seqK fun K5 hK5 => ?_
    refine awp_reg rfl ?_
    refine AR.op rfl (aop_move (.inl rfl) rfl) ?_
    refine AR.op rfl (aop_move (.inr rfl) rfl) ?_
    refine AR.nil ?_
    refine hK5 _ (AWP.weak (Weak.kp (fr' := [(0, _), (1, _), (4, _), (5, _), (14, _)]) ⟨rfl, rfl, rfl, rfl, rfl, trivial⟩) ?_)
    clear hK5 K5
    refine awp_ret ?_
    refine ⟨.inr rfl, _, rfl, ?_⟩
    rw [Bv.has_or hh]; rfl
  · skip
    refine awp_reg rfl ?_
    refine AR.op rfl (aop_move (.inl rfl) rfl) ?_
    refine AR.op rfl (aop_move (.inl rfl) rfl) ?_
    refine AR.op rfl ((aop_call1 rfl rfl (by simp) (has_ok W0 s _)).conv (by rw [hh])) ?_
    refine (show AR _ _ _ _ [(0, _), (1, _), (4, _), (6, _), (7, _), (8, _)] _ _ from ?_)
    refine AR.op rfl (aop_move (.inr rfl) rfl) ?_
    refine AR.nil ?_
    refine hK2 _ (AWP.weak (Weak.kp (fr' := [(0, _), (1, _), (4, _), (5, _)]) ⟨rfl, rfl, rfl, rfl, trivial⟩) ?_)
    clear hK2 K2
    refine awp_seqK fun K6 hK6 => ?_
    refine awp_seqK fun K7 hK7 => ?_
    refine awp_reg rfl ?_
    refine AR.op rfl (aop_move (.inl rfl) rfl) ?_
    refine AR.op rfl (aop_move (.inl rfl) rfl) ?_
    first | refine AR.op rfl (aop_move (.inl rfl) rfl) ?_ | refine AR.skip rfl ?_
    refine (show AR _ _ _ _ [(0, _), (1, _), (4, _), (5, _), (9, _), (10, _), (11, _)] _ _ from ?_)
    first | refine AR.op rfl ((aop_call1 rfl rfl (by simp) (in_ok W0 _)).conv (by rw [decide_eq_false ho])) ?_ | refine AR.skip rfl ?_
    first | refine AR.op rfl (aop_not rfl rfl) ?_ | refine AR.skip rfl ?_
    refine AR.op rfl (aop_pick rfl rfl rfl) ?_
    refine AR.nil ?_
    refine hK7 _ (AWP.weak (Weak.kp (fr' := [(0, _), (1, _), (4, _), (5, _), (14, _)]) ⟨rfl, rfl, rfl, rfl, rfl, trivial⟩) ?_)
    clear hK7 K7
    refine awp_cond_t rfl ?_
    refine awp_seqK fun K8 hK8 => ?_
    refine awp_reg rfl ?_
    refine AR.op rfl (aop_move (.inl rfl) rfl) ?_
    refine AR.op rfl (aop_move (.inr rfl) rfl) ?_
    refine AR.nil ?_
    refine hK8 _ (AWP.weak (Weak.kp (fr' := [(0, _), (1, _), (4, _), (5, _), (14, _)]) ⟨rfl, rfl, rfl, rfl, rfl, trivial⟩) ?_)
    clear hK8 K8
    refine awp_ret ?_
    refine ⟨.inr rfl, _, rfl, ?_⟩
    rw [Bv.bit_out ho, BitVec.or_zero]; rfl
  · have ho : (0:Int) ≤ (k:Int) ∧ (k:Int) ≤ 63 := by omega
    refine awp_reg rfl ?_
    refine AR.op rfl (aop_move (.inl rfl) rfl) ?_
    refine AR.op rfl (aop_move (.inl rfl) rfl) ?_
    refine AR.op rfl ((aop_call1 rfl rfl (by simp) (has_ok W0 s _)).conv (by rw [hh])) ?_
    refine (show AR _ _ _ _ [(0, _), (1, _), (4, _), (6, _), (7, _), (8, _)] _ _ from ?_)
    refine AR.op rfl (aop_move (.inr rfl) rfl) ?_
    refine AR.nil ?_
    refine hK2 _ (AWP.weak (Weak.kp (fr' := [(0, _), (1, _), (4, _), (5, _)]) ⟨rfl, rfl, rfl, rfl, trivial⟩) ?_)
    clear hK2 K2
    refine awp_seqK fun K9 hK9 => ?_
    refine awp_seqK fun K10 hK10 => ?_
    refine awp_reg rfl ?_
    refine AR.op rfl (aop_move (.inl rfl) rfl) ?_
    refine AR.op rfl (aop_move (.inl rfl) rfl) ?_
    first | refine AR.op rfl (aop_move (.inl rfl) rfl) ?_ | refine AR.skip rfl ?_
    refine (show AR _ _ _ _ [(0, _), (1, _), (4, _), (5, _), (9, _), (10, _), (11, _)] _ _ from ?_)
    first | refine AR.op rfl ((aop_call1 rfl rfl (by simp) (in_ok W0 _)).conv (by rw [decide_eq_true ho])) ?_ | refine AR.skip rfl ?_
    first | refine AR.op rfl (aop_not rfl rfl) ?_ | refine AR.skip rfl ?_
    refine AR.op rfl (aop_pick rfl rfl rfl) ?_
    refine AR.nil ?_
    refine hK10 _ (AWP.weak (Weak.kp (fr' := [(0, _), (1, _), (4, _), (5, _), (14, _)]) ⟨rfl, rfl, rfl, rfl, rfl, trivial⟩) ?_)
    clear hK10 K10
    refine awp_cond_f rfl ?_
    refine awp_skip ?_
    refine hK9 _ ?_
    clear hK9 K9
    refine awp_seqK fun K11 hK11 => ?_
    refine awp_reg rfl ?_
    refine AR.op rfl (aop_move (.inl rfl) rfl) ?_
    refine AR.op rfl (aop_move (.inl rfl) rfl) ?_
    refine AR.op rfl (aop_call1 rfl rfl (by simp) (power_ok W0 k hk)) ?_
    refine (show AR _ _ _ _ [(0, _), (1, _), (4, _), (5, _), (14, _), (16, _), (17, _), (18, _)] _ _ from ?_)
    refine AR.op rfl (aop_add64 rfl rfl rfl) ?_
    refine AR.op rfl (aop_move (.inr rfl) rfl) ?_
    refine AR.nil ?_
    refine hK11 _ (AWP.weak (Weak.kp (fr' := [(0, _), (1, _), (4, _), (5, _), (14, _)]) ⟨rfl, rfl, rfl, rfl, rfl, trivial⟩) ?_)
    clear hK11 K11
    refine awp_ret ?_
    refine ⟨.inr rfl, _, rfl, ?_⟩
    refine (rfl : _ = u64 (s + 1#64 <<< k)).trans ?_
    rw [Bv.bit_of hk, Bv.add_bit hk hb]

theorem rlist_ok (W0 : World) (s : BitVec 64) : Fun1 Tryd.prog W0 18 [u64 s] (ints (Bv.list s)) := by
  refine fun1_of_awp Tryd.func18 rfl (by kernel_rfl) Tryd.ntmps18 (by simp) (by simp) ?_
  rw [Bv.list_pre s]
  refine awp_seqK fun K1 hK1 => ?_
  refine awp_reg rfl ?_
  refine AR.op rfl (aop_move (.inr rfl) rfl) ?_
  refine AR.nil ?_
  refine hK1 _ (AWP.weak (Weak.kp (fr' := [(0, _), (2, _)]) ⟨rfl, rfl, trivial⟩) ?_)
  clear hK1 K1
  refine awp_seqK fun K2 hK2 => ?_
  refine awp_reg rfl ?_
  refine AR.op rfl (aop_move (.inr rfl) rfl) ?_
  refine AR.nil ?_
  refine hK2 _ (AWP.weak (Weak.kp (fr' := [(0, _), (2, _), (3, _)]) ⟨rfl, rfl, rfl, trivial⟩) ?_)
  clear hK2 K2
  refine awp_seqK fun K3 hK3 => ?_
  refine awp_seqK fun K4 hK4 => ?_
  refine awp_reg rfl ?_
  refine AR.op rfl (aop_move (.inr rfl) rfl) ?_
  refine AR.nil ?_
  refine hK4 _ (AWP.weak (Weak.kp (fr' := [(0, _), (2, _), (3, _), (4, _)]) ⟨rfl, rfl, rfl, rfl, trivial⟩) ?_)
  clear hK4 K4
  refine awp_block ?_
  refine awp_loopS (fun (k : Nat) => ⟨[(0, u64 s), (3, .view 0 0 (i64l (Bv.pre s k)).length), (4, i64 k)], ⟨1, [(0, (1, i64l (Bv.pre s k)))]⟩⟩) (fun (k : Nat) => k ≤ 64) (fun (k : Nat) => 64 - k) (0) (by simp) (Weak.re [] [0] rfl rfl rfl (.new (.head _) Nat.one_pos) ⟨⟨_, rfl, .same _ (.imm _)⟩, ⟨_, rfl, .nil (.head _)⟩, ⟨_, rfl, .same _ (.imm _)⟩, trivial⟩) ?_
  intro k hk
  refine awp_seqK fun K5 hK5 => ?_
  refine awp_seqK fun K6 hK6 => ?_
  refine awp_reg rfl ?_
  refine AR.op rfl (aop_move (.inl rfl) rfl) ?_
  refine AR.op rfl (aop_lss rfl rfl rfl) ?_
  refine AR.nil ?_
  refine hK6 _ (AWP.weak (Weak.kp (fr' := [(0, _), (3, _), (4, _), (7, _)]) ⟨rfl, rfl, rfl, rfl, trivial⟩) ?_)
  clear hK6 K6
  refine awp_cond rfl (fun h => ?_) (fun h => ?_)
  · have hlt : k < 64 := by have := of_decide_eq_true h; omega
    refine awp_skip ?_
    refine hK5 _ ?_
    clear hK5 K5
    refine awp_seqK fun K7 hK7 => ?_
    refine awp_block ?_
    refine awp_seqK fun K8 hK8 => ?_
    refine awp_reg rfl ?_
    refine AR.op rfl (aop_move (.inl rfl) rfl) ?_
    refine AR.op rfl (aop_move (.inl rfl) rfl) ?_
    refine AR.op rfl ((aop_call1 rfl rfl (by simp) (has_ok W0 s _)).conv (by rw [Bv.has_of (by omega)])) ?_
    refine (show AR _ _ _ _ [(0, _), (3, _), (4, _), (7, _), (10, _), (11, _), (12, _)] _ _ from ?_)
    refine AR.op rfl (aop_move (.inr rfl) rfl) ?_
    refine AR.nil ?_
    refine hK8 _ (AWP.weak (Weak.kp (fr' := [(0, _), (3, _), (4, _), (5, _), (7, _)]) ⟨rfl, rfl, rfl, rfl, rfl, trivial⟩) ?_)
    clear hK8 K8
    refine awp_seqK fun K9 hK9 => ?_
    refine awp_reg rfl ?_
    refine AR.op rfl (aop_move (.inl rfl) rfl) ?_
    refine AR.nil ?_
    refine hK9 _ (AWP.weak (Weak.kp (fr' := [(0, _), (3, _), (4, _), (5, _), (7, _), (13, _)]) ⟨rfl, rfl, rfl, rfl, rfl, rfl, trivial⟩) ?_)
    clear hK9 K9
    refine awp_cond rfl (fun h => ?_) (fun h => ?_)
    · skip
      refine awp_reg rfl ?_
      refine AR.op rfl (aop_move (.inl rfl) rfl) ?_
      refine AR.op rfl (aop_move (.inl rfl) rfl) ?_
      refine AR.op rfl (aop_buildSlice rfl (xo := [.tmp 15]) rfl rfl rfl (by simp [AV.solid]) (by simp [AV.flat]) el29 ze29 (by decide)) ?_
      refine (show AR _ _ _ _ [(0, _), (3, _), (4, _), (5, _), (7, _), (13, _), (14, _), (15, _), (16, _)] _ _ from ?_)
      refine AR.op rfl (aop_app_view et29 rfl rfl (rfl) rfl rfl rfl rfl (flat_i64s) (by simp [AV.flat]) (by have := Bv.pre_len s k; simp; omega)) ?_
      refine AR.op rfl (aop_move (.inr rfl) rfl) ?_
      refine AR.nil ?_
      refine hK7 _ (AWP.weak (Weak.kp (fr' := [(0, _), (3, _), (4, _), (5, _), (7, _), (13, _)]) ⟨rfl, rfl, rfl, rfl, rfl, rfl, trivial⟩) ?_)
      clear hK7 K7
      refine awp_reg rfl ?_
      refine AR.op rfl (aop_move (.inl rfl) rfl) ?_
      refine AR.op rfl (aop_add rfl rfl rfl (i64_wrap (by omega) (by omega))) ?_
      refine AR.op rfl (aop_move (.inr rfl) rfl) ?_
      refine AR.nil ?_
      refine ⟨k + 1, by omega, by omega, ?_⟩
      rw [Bv.pre_t h, i64l_snoc]
      exact Weak.re [(0, 1)] [] rfl rfl rfl (.one rfl rfl noId_snoc Nat.one_pos) ⟨⟨_, rfl, .same _ (.imm _)⟩, ⟨_, rfl, .view rfl⟩, ⟨_, rfl, .same _ (.imm _)⟩, trivial⟩
    · skip
      refine awp_skip ?_
      refine hK7 _ ?_
      clear hK7 K7
      refine awp_reg rfl ?_
      refine AR.op rfl (aop_move (.inl rfl) rfl) ?_
      refine AR.op rfl (aop_add rfl rfl rfl (i64_wrap (by omega) (by omega))) ?_
      refine AR.op rfl (aop_move (.inr rfl) rfl) ?_
      refine AR.nil ?_
      refine ⟨k + 1, by omega, by omega, ?_⟩
      rw [Bv.pre_f h]
      exact Weak.keep ⟨rfl, rfl, rfl, trivial⟩
  · have hge : k = 64 := by have := of_decide_eq_false h; omega
    subst hge
    refine awp_exit ?_
    refine hK3 _ ?_
    clear hK5 K5
    clear hK3 K3
    refine awp_seqK fun K10 hK10 => ?_
    refine awp_reg rfl ?_
    refine AR.op rfl (aop_move (.inl rfl) rfl) ?_
    refine AR.op rfl (aop_move (.inr rfl) rfl) ?_
    refine AR.nil ?_
    refine hK10 _ (AWP.weak (Weak.kp (fr' := [(0, _), (2, _), (3, _), (4, _), (7, _)]) ⟨rfl, rfl, rfl, rfl, rfl, trivial⟩) ?_)
    clear hK10 K10
    refine awp_ret ?_
    refine ⟨.inr rfl, _, rfl, ?_⟩
    exact frz_view _

/-- The table of math/bits lies as it should. -/
def Tab (W0 : World) : Prop := ∀ (j : Nat) (v : Value), (Bv.tab.map fun (k : Nat) => Value.int .u8 (k : Int))[j]? = some v → W0.cell? ⟨0, j, none⟩ = some v ∧ v.oneCell' = true

theorem tz_ok (W0 : World) (hT : Tab W0) (s : BitVec 64) : Fun1 Tryd.prog W0 26 [u64 s] (i64 (Bv.ctz s : Nat)) := by
  refine fun1_of_awp Tryd.func26 rfl (by kernel_rfl) Tryd.ntmps26 (by simp) (by simp) ?_
  refine awp_seqK fun K1 hK1 => ?_
  refine awp_reg rfl ?_
  refine AR.op rfl (aop_move (.inr rfl) rfl) ?_
  refine AR.nil ?_
  refine hK1 _ (AWP.weak (Weak.kp (fr' := [(0, _), (2, _)]) ⟨rfl, rfl, trivial⟩) ?_)
  clear hK1 K1
  refine awp_seqK fun K2 hK2 => ?_
  refine awp_seqK fun K3 hK3 => ?_
  refine awp_reg rfl ?_
  refine AR.op rfl (aop_move (.inl rfl) rfl) ?_
  refine AR.op rfl (aop_eql64 (b := 0#64) rfl rfl rfl) ?_
  refine AR.nil ?_
  refine hK3 _ (AWP.weak (Weak.kp (fr' := [(0, _), (2, _), (4, _)]) ⟨rfl, rfl, rfl, trivial⟩) ?_)
  clear hK3 K3
  refine awp_cond rfl (fun h => ?_) (fun h => ?_)
  · have hs : s = 0#64 := of_decide_eq_true h
    subst hs
    refine awp_seqK fun K4 hK4 => ?_
    refine awp_reg rfl ?_
    refine AR.op rfl (aop_move (.inr rfl) rfl) ?_
    refine AR.nil ?_
    refine hK4 _ (AWP.weak (Weak.kp (fr' := [(0, _), (2, _), (4, _)]) ⟨rfl, rfl, rfl, trivial⟩) ?_)
    clear hK4 K4
    refine awp_ret ?_
    refine ⟨.inr rfl, _, rfl, ?_⟩
    rfl
  · have hs : s ≠ 0#64 := of_decide_eq_false h
    obtain ⟨_, hk, he⟩ := Bv.list_cons s hs
    have htab := Bv.tab_ok ⟨Bv.ctz s, hk⟩
    refine awp_skip ?_
    refine hK2 _ ?_
    clear hK2 K2
    refine awp_seqK fun K5 hK5 => ?_
    refine awp_reg rfl ?_
    refine AR.op rfl (aop_move (.inl rfl) rfl) ?_
    refine AR.op rfl (aop_move (.inl rfl) rfl) ?_
    refine AR.op rfl (aop_neg64 rfl rfl) ?_
    refine (show AR _ _ _ _ [(0, _), (2, _), (4, _), (5, _), (6, _), (7, _)] _ _ from ?_)
    refine AR.op rfl ((aop_and rfl rfl rfl).conv (by rw [he])) ?_
    refine AR.op rfl (aop_mul64 (b := 285870213051353865#64) rfl rfl rfl) ?_
    refine AR.op rfl (aop_shr64 rfl rfl rfl (by omega) (by omega)) ?_
    refine (show AR _ _ _ _ [(0, _), (2, _), (4, _), (5, _), (6, _), (7, _), (8, _), (9, _), (10, _)] _ _ from ?_)
    refine AR.op rfl (aop_index_glob (m := (((1#64 <<< Bv.ctz s) * Bv.dB) >>> 58).toNat) rfl rfl ar42 rfl (Bv.shr_lt _) rfl hT (by decide)) ?_
    refine AR.op rfl (aop_load_pp rfl rfl sz5 (tab_part htab)) ?_
    refine AR.op rfl (aop_conv (m := ((Bv.ctz s : Nat) : Int)) rfl rfl Tryd.underlying5 Tryd.underlying3 (i64_wrap (by omega) (by omega))) ?_
    refine (show AR _ _ _ _ [(0, _), (2, _), (4, _), (5, _), (6, _), (7, _), (8, _), (9, _), (10, _), (11, _), (12, _), (13, _)] _ _ from ?_)
    refine AR.op rfl (aop_move (.inr rfl) rfl) ?_
    refine AR.nil ?_
    refine hK5 _ (AWP.weak (Weak.kp (fr' := [(0, _), (2, _), (4, _)]) ⟨rfl, rfl, rfl, trivial⟩) ?_)
    clear hK5 K5
    refine awp_ret ?_
    refine ⟨.inr rfl, _, rfl, ?_⟩
    rfl

theorem list_ok (W0 : World) (hT : Tab W0) (s : BitVec 64) : Fun1 Tryd.prog W0 12 [u64 s] (ints (Bv.list s)) := by
  refine fun1_of_awp Tryd.func12 rfl (by kernel_rfl) Tryd.ntmps12 (by simp) (by simp) ?_
  refine awp_seqK fun K1 hK1 => ?_
  refine awp_reg rfl ?_
  refine AR.op rfl (aop_move (.inr rfl) rfl) ?_
  refine AR.nil ?_
  refine hK1 _ (AWP.weak (Weak.kp (fr' := [(0, _), (2, _)]) ⟨rfl, rfl, trivial⟩) ?_)
  clear hK1 K1
  refine awp_seqK fun K2 hK2 => ?_
  refine awp_reg rfl ?_
  refine AR.op rfl (aop_move (.inr rfl) rfl) ?_
  refine AR.nil ?_
  refine hK2 _ (AWP.weak (Weak.kp (fr' := [(0, _), (2, _), (3, _)]) ⟨rfl, rfl, rfl, trivial⟩) ?_)
  clear hK2 K2
  refine awp_seqK fun K3 hK3 => ?_
  refine awp_block ?_
  refine awp_loopS (fun (p : BitVec 64 × List Nat) => ⟨[(0, u64 p.1), (3, .view 0 0 (i64l p.2).length)], ⟨1, [(0, (1, i64l p.2))]⟩⟩) (fun (p : BitVec 64 × List Nat) => p.2 ++ Bv.list p.1 = Bv.list s) (fun (p : BitVec 64 × List Nat) => (Bv.list p.1).length) ((s, [])) (rfl) (Weak.re [] [0] rfl rfl rfl (.new (.head _) Nat.one_pos) ⟨⟨_, rfl, .same _ (.imm _)⟩, ⟨_, rfl, .nil (.head _)⟩, trivial⟩) ?_
  rintro ⟨r, acc⟩ hp
  dsimp only at hp ⊢
  refine awp_seqK fun K4 hK4 => ?_
  refine awp_seqK fun K5 hK5 => ?_
  refine awp_reg rfl ?_
  refine AR.op rfl (aop_move (.inl rfl) rfl) ?_
  refine AR.op rfl (aop_neq64 (b := 0#64) rfl rfl rfl) ?_
  refine AR.nil ?_
  refine hK5 _ (AWP.weak (Weak.kp (fr' := [(0, _), (3, _), (5, _)]) ⟨rfl, rfl, rfl, trivial⟩) ?_)
  clear hK5 K5
  refine awp_cond rfl (fun h => ?_) (fun h => ?_)
  · have hne : r ≠ 0#64 := of_decide_eq_true h
    refine awp_skip ?_
    refine hK4 _ ?_
    clear hK4 K4
    refine awp_seqK fun K6 hK6 => ?_
    refine awp_block ?_
    refine awp_reg rfl ?_
    refine AR.op rfl (aop_move (.inl rfl) rfl) ?_
    refine AR.op rfl (aop_move (.inl rfl) rfl) ?_
    refine AR.op rfl (aop_call1 rfl rfl (by simp) (tz_ok W0 hT _)) ?_
    refine (show AR _ _ _ _ [(0, _), (3, _), (5, _), (10, _), (11, _), (12, _)] _ _ from ?_)
    refine AR.op rfl (aop_buildSlice rfl (xo := [.tmp 12]) rfl rfl rfl (by simp [AV.solid]) (by simp [AV.flat]) el29 ze29 (by decide)) ?_
    refine AR.op rfl (aop_app_view et29 rfl rfl (rfl) rfl rfl rfl rfl (flat_i64s) (by simp [AV.flat]) (by have := Bv.acc_len hp; simp; omega)) ?_
    refine AR.op rfl (aop_move (.inr rfl) rfl) ?_
    refine AR.nil ?_
    refine hK6 _ (AWP.weak (Weak.kp (fr' := [(0, _), (3, _), (5, _)]) ⟨rfl, rfl, rfl, trivial⟩) ?_)
    clear hK6 K6
    refine awp_reg rfl ?_
    refine AR.op rfl (aop_move (.inl rfl) rfl) ?_
    refine AR.op rfl (aop_move (.inl rfl) rfl) ?_
    refine AR.op rfl (aop_sub64 (b := 1#64) rfl rfl rfl) ?_
    refine (show AR _ _ _ _ [(0, _), (3, _), (5, _), (6, _), (7, _), (8, _)] _ _ from ?_)
    refine AR.op rfl (aop_and rfl rfl rfl) ?_
    refine AR.op rfl (aop_move (.inr rfl) rfl) ?_
    refine AR.nil ?_
    have hc := (Bv.list_cons r hne).1
    refine ⟨(r &&& (r - 1#64), acc ++ [Bv.ctz r]), by show acc ++ [Bv.ctz r] ++ _ = _; rw [← hp, hc]; simp, by show (Bv.list _).length < (Bv.list r).length; rw [hc]; exact Nat.lt_succ_self _, ?_⟩
    dsimp only
    rw [i64l_snoc]
    exact Weak.re [(0, 1)] [] rfl rfl rfl (.one rfl rfl noId_snoc Nat.one_pos) ⟨⟨_, rfl, .same _ (.imm _)⟩, ⟨_, rfl, .view rfl⟩, trivial⟩
  · have hz : r = 0#64 := Classical.byContradiction (of_decide_eq_false h)
    subst hz
    rw [Bv.list_zero, List.append_nil] at hp
    subst hp
    refine awp_exit ?_
    refine hK3 _ ?_
    clear hK4 K4
    clear hK3 K3
    refine awp_seqK fun K7 hK7 => ?_
    refine awp_reg rfl ?_
    refine AR.op rfl (aop_move (.inl rfl) rfl) ?_
    refine AR.op rfl (aop_move (.inr rfl) rfl) ?_
    refine AR.nil ?_
    refine hK7 _ (AWP.weak (Weak.kp (fr' := [(0, _), (2, _), (3, _), (5, _)]) ⟨rfl, rfl, rfl, rfl, trivial⟩) ?_)
    clear hK7 K7
    refine awp_ret ?_
    refine ⟨.inr rfl, _, rfl, ?_⟩
    exact frz_view _

theorem least_ok (W0 : World) (hT : Tab W0) (s : BitVec 64) : Fun1 Tryd.prog W0 16 [u64 s] (i64 (Bv.least s)) := by
  refine fun1_of_awp Tryd.func16 rfl (by kernel_rfl) Tryd.ntmps16 (by simp) (by simp) ?_
  refine awp_seqK fun K1 hK1 => ?_
  refine awp_reg rfl ?_
  refine AR.op rfl (aop_move (.inr rfl) rfl) ?_
  refine AR.nil ?_
  refine hK1 _ (AWP.weak (Weak.kp (fr' := [(0, _), (2, _)]) ⟨rfl, rfl, trivial⟩) ?_)
  clear hK1 K1
  refine awp_seqK fun K2 hK2 => ?_
  refine awp_seqK fun K3 hK3 => ?_
  refine awp_reg rfl ?_
  refine AR.op rfl (aop_move (.inl rfl) rfl) ?_
  refine AR.op rfl (aop_eql64 (b := 0#64) rfl rfl rfl) ?_
  refine AR.nil ?_
  refine hK3 _ (AWP.weak (Weak.kp (fr' := [(0, _), (2, _), (4, _)]) ⟨rfl, rfl, rfl, trivial⟩) ?_)
  clear hK3 K3
  refine awp_cond rfl (fun h => ?_) (fun h => ?_)
  · have hs : s = 0#64 := of_decide_eq_true h
    subst hs
    refine awp_seqK fun K4 hK4 => ?_
    refine awp_reg rfl ?_
    refine AR.op rfl (aop_move (.inr rfl) rfl) ?_
    refine AR.nil ?_
    refine hK4 _ (AWP.weak (Weak.kp (fr' := [(0, _), (2, _), (4, _)]) ⟨rfl, rfl, rfl, trivial⟩) ?_)
    clear hK4 K4
    refine awp_ret ?_
    refine ⟨.inr rfl, _, rfl, ?_⟩
    rfl
  · have hs : s ≠ 0#64 := of_decide_eq_false h
    refine awp_skip ?_
    refine hK2 _ ?_
    clear hK2 K2
    refine awp_seqK fun K5 hK5 => ?_
    refine awp_reg rfl ?_
    refine AR.op rfl (aop_move (.inl rfl) rfl) ?_
    refine AR.op rfl (aop_call1 rfl rfl (by simp) (tz_ok W0 hT _)) ?_
    refine AR.op rfl (aop_move (.inr rfl) rfl) ?_
    refine AR.nil ?_
    refine hK5 _ (AWP.weak (Weak.kp (fr' := [(0, _), (2, _), (4, _)]) ⟨rfl, rfl, rfl, trivial⟩) ?_)
    clear hK5 K5
    refine awp_ret ?_
    refine ⟨.inr rfl, _, rfl, ?_⟩
    rw [Bv.least_ctz s hs]; rfl

theorem without_ok (W0 : World) (s : BitVec 64) (i : Int) : Fun1 Tryd.prog W0 23 [u64 s, i64 i] (u64 (s &&& ~~~ Bv.bit i)) := by
  refine fun1_of_awp Tryd.func23 rfl (by kernel_rfl) Tryd.ntmps23 (by simp) (by simp) ?_
  refine awp_seqK fun K1 hK1 => ?_
  refine awp_reg rfl ?_
  refine AR.op rfl (aop_move (.inr rfl) rfl) ?_
  refine AR.nil ?_
  refine hK1 _ (AWP.weak (Weak.kp (fr' := [(0, _), (1, _), (4, _)]) ⟨rfl, rfl, rfl, trivial⟩) ?_)
  clear hK1 K1
  refine awp_seqK fun K2 hK2 => ?_
  refine awp_reg rfl ?_
  refine AR.op rfl (aop_move (.inl rfl) rfl) ?_
  refine AR.op rfl (aop_move (.inl rfl) rfl) ?_
  refine AR.op rfl (aop_call1 rfl rfl (by simp) (bit_ok W0 _)) ?_
  refine (show AR _ _ _ _ [(0, _), (1, _), (4, _), (5, _), (6, _), (7, _)] _ _ from ?_)
  refine AR.op rfl (aop_andNot rfl rfl rfl) ?_
  refine AR.op rfl (aop_move (.inr rfl) rfl) ?_
  refine AR.nil ?_
  refine hK2 _ (AWP.weak (Weak.kp (fr' := [(0, _), (1, _), (4, _)]) ⟨rfl, rfl, rfl, trivial⟩) ?_)
  clear hK2 K2
  refine awp_ret ?_
  refine ⟨.inr rfl, _, rfl, ?_⟩
  rfl

theorem sub_ok (W0 : World) (a b : BitVec 64) : Fun1 Tryd.prog W0 9 [u64 a, u64 b] (bl (decide (a &&& ~~~b = 0#64))) := by
  refine fun1_of_awp Tryd.func9 rfl (by kernel_rfl) Tryd.ntmps9 (by simp) (by simp) ?_
  refine awp_seqK fun K1 hK1 => ?_
  refine awp_reg rfl ?_
  refine AR.op rfl (aop_move (.inr rfl) rfl) ?_
  refine AR.nil ?_
  refine hK1 _ (AWP.weak (Weak.kp (fr' := [(0, _), (1, _), (4, _)]) ⟨rfl, rfl, rfl, trivial⟩) ?_)
  clear hK1 K1
  refine awp_seqK fun K2 hK2 => ?_
  refine awp_reg rfl ?_
  refine AR.op rfl (aop_move (.inl rfl) rfl) ?_
  refine AR.op rfl (aop_move (.inl rfl) rfl) ?_
  refine AR.op rfl (aop_andNot rfl rfl rfl) ?_
  refine (show AR _ _ _ _ [(0, _), (1, _), (4, _), (5, _), (6, _), (7, _)] _ _ from ?_)
  refine AR.op rfl (aop_eql64 (b := 0#64) rfl rfl rfl) ?_
  refine AR.op rfl (aop_move (.inr rfl) rfl) ?_
  refine AR.nil ?_
  refine hK2 _ (AWP.weak (Weak.kp (fr' := [(0, _), (1, _), (4, _)]) ⟨rfl, rfl, rfl, trivial⟩) ?_)
  clear hK2 K2
  refine awp_ret ?_
  refine ⟨.inr rfl, _, rfl, ?_⟩
  rfl

theorem join_ok (W0 : World) (l : List (BitVec 64)) (hl : l.length ≤ 9223372036854775807) : Fun1 Tryd.prog W0 8 [u64s l] (u64 (Bv.joinB l)) := by
  refine fun1_of_awp Tryd.func8 rfl (by kernel_rfl) Tryd.ntmps8 (by simp) (by simp) ?_
  refine awp_seqK fun K1 hK1 => ?_
  refine awp_reg rfl ?_
  refine AR.op rfl (aop_move (.inr rfl) rfl) ?_
  refine AR.nil ?_
  refine hK1 _ (AWP.weak (Weak.kp (fr' := [(0, _), (2, _)]) ⟨rfl, rfl, trivial⟩) ?_)
  clear hK1 K1
  refine awp_seqK fun K2 hK2 => ?_
  refine awp_reg rfl ?_
  refine AR.op rfl (aop_move (.inr rfl) rfl) ?_
  refine AR.nil ?_
  refine hK2 _ (AWP.weak (Weak.kp (fr' := [(0, _), (2, _), (3, _)]) ⟨rfl, rfl, rfl, trivial⟩) ?_)
  clear hK2 K2
  refine awp_seqK fun K3 hK3 => ?_
  refine awp_seqK fun K4 hK4 => ?_
  refine awp_reg rfl ?_
  refine AR.op rfl (aop_move (.inl rfl) rfl) ?_
  refine AR.op rfl (aop_len rfl rfl rfl el22) ?_
  refine AR.op rfl (aop_move (.inl rfl) rfl) ?_
  refine AR.nil ?_
  refine hK4 _ (AWP.weak (Weak.kp (fr' := [(0, _), (2, _), (3, _), (6, _), (7, _), (8, _)]) ⟨rfl, rfl, rfl, rfl, rfl, rfl, trivial⟩) ?_)
  clear hK4 K4
  refine awp_block ?_
  refine awp_loopS (fun (k : Nat) => ⟨[(0, u64s l), (3, u64 (Bv.joinB (l.take k))), (6, u64s l), (7, i64 l.length), (8, i64 k)], .empty⟩) (fun (k : Nat) => k ≤ l.length) (fun (k : Nat) => l.length - k) (0) (by simp) (Weak.keep ⟨rfl, rfl, rfl, by simp [lk], rfl, trivial⟩) ?_
  intro k hk
  refine awp_seqK fun K5 hK5 => ?_
  refine awp_reg rfl ?_
  refine AR.op rfl (aop_lss rfl rfl rfl) ?_
  refine AR.nil ?_
  refine hK5 _ (AWP.weak (Weak.kp (fr' := [(0, _), (3, _), (6, _), (7, _), (8, _), (9, _)]) ⟨rfl, rfl, rfl, rfl, rfl, rfl, trivial⟩) ?_)
  clear hK5 K5
  refine awp_seqK fun K6 hK6 => ?_
  refine awp_cond rfl (fun h => ?_) (fun h => ?_)
  · have hlt : k < l.length := by have := of_decide_eq_true h; omega
    refine awp_skip ?_
    refine hK6 _ ?_
    clear hK6 K6
    refine awp_seqK fun K7 hK7 => ?_
    refine awp_block ?_
    refine awp_seqK fun K8 hK8 => ?_
    refine awp_reg rfl ?_
    refine AR.op rfl (aop_index_sl rfl rfl (.inl rfl) rfl el22 (rfl) (get_map u64 l hlt) (rfl)) ?_
    first | refine AR.op rfl (aop_load_pp rfl rfl sz23 (rfl)) ?_ | refine AR.op rfl (aop_load_ref rfl rfl rfl (rfl) sz23 (rfl)) ?_
    refine AR.op rfl (aop_move (.inr rfl) rfl) ?_
    refine AR.nil ?_
    refine hK8 _ (AWP.weak (Weak.kp (fr' := [(0, _), (3, _), (5, _), (6, _), (7, _), (8, _), (9, _)]) ⟨rfl, rfl, rfl, rfl, rfl, rfl, rfl, trivial⟩) ?_)
    clear hK8 K8
    refine awp_reg rfl ?_
    refine AR.op rfl (aop_move (.inl rfl) rfl) ?_
    refine AR.op rfl (aop_move (.inl rfl) rfl) ?_
    refine AR.op rfl (aop_or rfl rfl rfl) ?_
    refine (show AR _ _ _ _ [(0, _), (3, _), (5, _), (6, _), (7, _), (8, _), (9, _), (12, _), (13, _), (14, _)] _ _ from ?_)
    refine AR.op rfl (aop_move (.inr rfl) rfl) ?_
    refine AR.nil ?_
    refine hK7 _ (AWP.weak (Weak.kp (fr' := [(0, _), (3, _), (5, _), (6, _), (7, _), (8, _), (9, _)]) ⟨rfl, rfl, rfl, rfl, rfl, rfl, rfl, trivial⟩) ?_)
    clear hK7 K7
    refine awp_reg rfl ?_
    refine AR.op rfl (aop_add rfl rfl rfl (i64_wrap (by omega) (by omega))) ?_
    refine AR.op rfl (aop_move (.inl rfl) rfl) ?_
    refine AR.nil ?_
    refine ⟨k + 1, hlt, by omega, Weak.keep ⟨rfl, ?_, rfl, rfl, rfl, trivial⟩⟩
    rw [Bv.take_join l k hlt]; rfl
  · have hge : k = l.length := by have := of_decide_eq_false h; omega
    subst hge
    refine awp_exit ?_
    refine hK3 _ ?_
    clear hK6 K6
    clear hK3 K3
    refine awp_seqK fun K9 hK9 => ?_
    refine awp_reg rfl ?_
    refine AR.op rfl (aop_move (.inl rfl) rfl) ?_
    refine AR.op rfl (aop_move (.inr rfl) rfl) ?_
    refine AR.nil ?_
    refine hK9 _ (AWP.weak (Weak.kp (fr' := [(0, _), (2, _), (3, _), (6, _), (7, _), (8, _), (9, _)]) ⟨rfl, rfl, rfl, rfl, rfl, rfl, rfl, trivial⟩) ?_)
    clear hK9 K9
    refine awp_ret ?_
    refine ⟨.inr rfl, _, rfl, ?_⟩
    rw [show Bv.joinB l = Bv.joinB (l.take l.length) by rw [List.take_length]]; rfl

theorem rsub_ok (W0 : World) (a b : BitVec 64) : Fun1 Tryd.prog W0 11 [u64 a, u64 b] (bl (decide (a &&& ~~~b = 0#64))) := by
  refine fun1_of_awp Tryd.func11 rfl (by kernel_rfl) Tryd.ntmps11 (by simp) (by simp) ?_
  have h64 := Bv.list_length_le a
  refine awp_seqK fun K1 hK1 => ?_
  refine awp_reg rfl ?_
  refine AR.op rfl (aop_move (.inr rfl) rfl) ?_
  refine AR.nil ?_
  refine hK1 _ (AWP.weak (Weak.kp (fr' := [(0, _), (1, _), (4, _)]) ⟨rfl, rfl, rfl, trivial⟩) ?_)
  clear hK1 K1
  refine awp_seqK fun K2 hK2 => ?_
  refine awp_reg rfl ?_
  refine AR.op rfl (aop_move (.inl rfl) rfl) ?_
  refine AR.op rfl (aop_call1 rfl rfl (by simp) (rlist_ok W0 _)) ?_
  refine AR.op rfl (aop_move (.inr rfl) rfl) ?_
  refine AR.nil ?_
  refine hK2 _ (AWP.weak (Weak.kp (fr' := [(0, _), (1, _), (4, _), (5, _)]) ⟨rfl, rfl, rfl, rfl, trivial⟩) ?_)
  clear hK2 K2
  refine awp_seqK fun K3 hK3 => ?_
  refine awp_seqK fun K4 hK4 => ?_
  refine awp_reg rfl ?_
  refine AR.op rfl (aop_move (.inr rfl) rfl) ?_
  refine AR.nil ?_
  refine hK4 _ (AWP.weak (Weak.kp (fr' := [(0, _), (1, _), (4, _), (5, _), (6, _)]) ⟨rfl, rfl, rfl, rfl, rfl, trivial⟩) ?_)
  clear hK4 K4
  refine awp_block ?_
  refine awp_loopS (fun (k : Nat) => ⟨[(1, u64 b), (5, ints (Bv.list a)), (6, i64 k)], .empty⟩) (fun (k : Nat) => k ≤ (Bv.list a).length ∧ ∀ j, (hj : j < k) → (hl : j < (Bv.list a).length) → Bv.has b ((Bv.list a)[j] : Nat) = true) (fun (k : Nat) => (Bv.list a).length - k) (0) (⟨Nat.zero_le _, fun j hj => absurd hj (Nat.not_lt_zero j)⟩) (Weak.keep ⟨rfl, rfl, rfl, trivial⟩) ?_
  rintro k ⟨hk, hall⟩
  refine awp_seqK fun K5 hK5 => ?_
  refine awp_seqK fun K6 hK6 => ?_
  refine awp_reg rfl ?_
  refine AR.op rfl (aop_move (.inl rfl) rfl) ?_
  refine AR.op rfl (aop_move (.inl rfl) rfl) ?_
  refine AR.op rfl ((aop_len rfl rfl rfl el29).conv (by rw [List.length_map])) ?_
  refine (show AR _ _ _ _ [(1, _), (5, _), (6, _), (10, _), (11, _), (12, _)] _ _ from ?_)
  refine AR.op rfl (aop_lss rfl rfl rfl) ?_
  refine AR.nil ?_
  refine hK6 _ (AWP.weak (Weak.kp (fr' := [(1, _), (5, _), (6, _), (13, _)]) ⟨rfl, rfl, rfl, rfl, trivial⟩) ?_)
  clear hK6 K6
  refine awp_cond rfl (fun h => ?_) (fun h => ?_)
  · have hlt : k < (Bv.list a).length := by have := of_decide_eq_true h; omega
    refine awp_skip ?_
    refine hK5 _ ?_
    clear hK5 K5
    refine awp_seqK fun K7 hK7 => ?_
    refine awp_block ?_
    refine awp_seqK fun K8 hK8 => ?_
    refine awp_reg rfl ?_
    refine AR.op rfl (aop_move (.inl rfl) rfl) ?_
    refine AR.op rfl (aop_move (.inl rfl) rfl) ?_
    refine AR.op rfl (aop_move (.inl rfl) rfl) ?_
    refine (show AR _ _ _ _ [(1, _), (5, _), (6, _), (13, _), (16, _), (17, _), (18, _)] _ _ from ?_)
    refine AR.op rfl (aop_index_sl rfl rfl (.inl rfl) rfl el29 (rfl) (get_i64l _ hlt) (rfl)) ?_
    first | refine AR.op rfl (aop_load_pp rfl rfl sz3 (rfl)) ?_ | refine AR.op rfl (aop_load_ref rfl rfl rfl (rfl) sz3 (rfl)) ?_
    refine AR.op rfl (aop_call1 rfl rfl (by simp) (has_ok W0 _ _)) ?_
    refine (show AR _ _ _ _ [(1, _), (5, _), (6, _), (13, _), (16, _), (17, _), (18, _), (19, _), (20, _), (21, _)] _ _ from ?_)
    refine AR.op rfl (aop_move (.inr rfl) rfl) ?_
    refine AR.nil ?_
    refine hK8 _ (AWP.weak (Weak.kp (fr' := [(1, _), (5, _), (6, _), (7, _), (13, _)]) ⟨rfl, rfl, rfl, rfl, rfl, trivial⟩) ?_)
    clear hK8 K8
    refine awp_seqK fun K9 hK9 => ?_
    refine awp_reg rfl ?_
    refine AR.op rfl (aop_move (.inl rfl) rfl) ?_
    refine AR.op rfl (aop_not rfl rfl) ?_
    refine AR.nil ?_
    refine hK9 _ (AWP.weak (Weak.kp (fr' := [(1, _), (5, _), (6, _), (7, _), (13, _), (23, _)]) ⟨rfl, rfl, rfl, rfl, rfl, rfl, trivial⟩) ?_)
    clear hK9 K9
    refine awp_cond rfl (fun h => ?_) (fun h => ?_)
    · have h2 : Bv.has b ((Bv.list a)[k] : Nat) = false := by simpa using h
      refine awp_seqK fun K10 hK10 => ?_
      refine awp_reg rfl ?_
      refine AR.op rfl (aop_move (.inr rfl) rfl) ?_
      refine AR.nil ?_
      refine hK10 _ (AWP.weak (Weak.kp (fr' := [(1, _), (4, _), (5, _), (6, _), (7, _), (13, _), (23, _)]) ⟨rfl, rfl, rfl, rfl, rfl, rfl, rfl, trivial⟩) ?_)
      clear hK10 K10
      refine awp_ret ?_
      refine ⟨.inr rfl, _, rfl, ?_⟩
      have e : decide (a &&& ~~~b = 0#64) = false := decide_eq_false fun he => by
        have := (Bv.sub_iff a b).1 he _ (List.getElem_mem hlt)
        rw [h2] at this; cases this
      rw [e]; rfl
    · have h2 : Bv.has b ((Bv.list a)[k] : Nat) = true := by simpa using h
      refine awp_skip ?_
      refine hK7 _ ?_
      clear hK7 K7
      refine awp_reg rfl ?_
      refine AR.op rfl (aop_move (.inl rfl) rfl) ?_
      refine AR.op rfl (aop_add rfl rfl rfl (i64_wrap (by omega) (by omega))) ?_
      refine AR.op rfl (aop_move (.inr rfl) rfl) ?_
      refine AR.nil ?_
      refine ⟨k + 1, ⟨hlt, fun j hj hl => ?_⟩, by omega, Weak.keep ⟨rfl, rfl, rfl, trivial⟩⟩
      rcases Nat.lt_or_ge j k with h1 | h1
      · exact hall j h1 hl
      · have : j = k := by omega
        subst this
        exact h2
  · have hge : k = (Bv.list a).length := by have := of_decide_eq_false h; omega
    subst hge
    refine awp_exit ?_
    refine hK3 _ ?_
    clear hK5 K5
    clear hK3 K3
    refine awp_seqK fun K11 hK11 => ?_
    refine awp_reg rfl ?_
    refine AR.op rfl (aop_move (.inr rfl) rfl) ?_
    refine AR.nil ?_
    refine hK11 _ (AWP.weak (Weak.kp (fr' := [(1, _), (4, _), (5, _), (6, _), (13, _)]) ⟨rfl, rfl, rfl, rfl, rfl, trivial⟩) ?_)
    clear hK11 K11
    refine awp_ret ?_
    refine ⟨.inr rfl, _, rfl, ?_⟩
    have e : decide (a &&& ~~~b = 0#64) = true := decide_eq_true ((Bv.sub_iff a b).2 fun i hi => by
      obtain ⟨j, hj, rfl⟩ := List.mem_iff_getElem.1 hi
      exact hall j hj hj)
    rw [e]; rfl

theorem rjoin_ok (W0 : World) (l : List (BitVec 64)) (hl : l.length ≤ 9223372036854775807) : Fun1 Tryd.prog W0 10 [u64s l] (u64 (Bv.joinB l)) := by
  refine fun1_of_awp Tryd.func10 rfl (by kernel_rfl) Tryd.ntmps10 (by simp) (by simp) ?_
  have h64 := fun s => Bv.list_length_le s
  refine awp_seqK fun K1 hK1 => ?_
  refine awp_reg rfl ?_
  refine AR.op rfl (aop_move (.inr rfl) rfl) ?_
  refine AR.nil ?_
  refine hK1 _ (AWP.weak (Weak.kp (fr' := [(0, _), (2, _)]) ⟨rfl, rfl, trivial⟩) ?_)
  clear hK1 K1
  refine awp_seqK fun K2 hK2 => ?_
  refine awp_reg rfl ?_
  refine AR.op rfl (aop_move (.inr rfl) rfl) ?_
  refine AR.nil ?_
  refine hK2 _ (AWP.weak (Weak.kp (fr' := [(0, _), (2, _), (3, _)]) ⟨rfl, rfl, rfl, trivial⟩) ?_)
  clear hK2 K2
  refine awp_seqK fun K3 hK3 => ?_
  refine awp_seqK fun K4 hK4 => ?_
  refine awp_reg rfl ?_
  refine AR.op rfl (aop_move (.inr rfl) rfl) ?_
  refine AR.nil ?_
  refine hK4 _ (AWP.weak (Weak.kp (fr' := [(0, _), (2, _), (3, _), (4, _)]) ⟨rfl, rfl, rfl, rfl, trivial⟩) ?_)
  clear hK4 K4
  refine awp_block ?_
  refine awp_loopS (fun (k : Nat) => ⟨[(0, u64s l), (3, u64 (Bv.joinB (l.take k))), (4, i64 k)], .empty⟩) (fun (k : Nat) => k ≤ l.length) (fun (k : Nat) => l.length - k) (0) (by simp) (Weak.keep ⟨rfl, rfl, rfl, trivial⟩) ?_
  intro k hk
  refine awp_seqK fun K5 hK5 => ?_
  refine awp_seqK fun K6 hK6 => ?_
  refine awp_reg rfl ?_
  refine AR.op rfl (aop_move (.inl rfl) rfl) ?_
  refine AR.op rfl (aop_move (.inl rfl) rfl) ?_
  refine AR.op rfl ((aop_len rfl rfl rfl el22).conv (by rw [List.length_map])) ?_
  refine (show AR _ _ _ _ [(0, _), (3, _), (4, _), (7, _), (8, _), (9, _)] _ _ from ?_)
  refine AR.op rfl (aop_lss rfl rfl rfl) ?_
  refine AR.nil ?_
  refine hK6 _ (AWP.weak (Weak.kp (fr' := [(0, _), (3, _), (4, _), (10, _)]) ⟨rfl, rfl, rfl, rfl, trivial⟩) ?_)
  clear hK6 K6
  refine awp_cond rfl (fun h => ?_) (fun h => ?_)
  · have hlt : k < l.length := by have := of_decide_eq_true h; omega
    refine awp_skip ?_
    refine hK5 _ ?_
    clear hK5 K5
    refine awp_seqK fun K7 hK7 => ?_
    refine awp_block ?_
    refine awp_seqK fun K8 hK8 => ?_
    refine awp_reg rfl ?_
    refine AR.op rfl (aop_move (.inl rfl) rfl) ?_
    refine AR.op rfl (aop_move (.inl rfl) rfl) ?_
    refine AR.op rfl (aop_index_sl rfl rfl (.inl rfl) rfl el22 (rfl) (get_map u64 l hlt) (rfl)) ?_
    refine (show AR _ _ _ _ [(0, _), (3, _), (4, _), (10, _), (13, _), (14, _), (15, _)] _ _ from ?_)
    first | refine AR.op rfl (aop_load_pp rfl rfl sz23 (rfl)) ?_ | refine AR.op rfl (aop_load_ref rfl rfl rfl (rfl) sz23 (rfl)) ?_
    refine AR.op rfl (aop_call1 rfl rfl (by simp) (rlist_ok W0 _)) ?_
    refine AR.op rfl (aop_move (.inr rfl) rfl) ?_
    refine AR.nil ?_
    refine hK8 _ (AWP.weak (Weak.kp (fr' := [(0, _), (3, _), (4, _), (5, _), (10, _)]) ⟨rfl, rfl, rfl, rfl, rfl, trivial⟩) ?_)
    clear hK8 K8
    refine awp_seqK fun K9 hK9 => ?_
    refine awp_reg rfl ?_
    refine AR.op rfl (aop_move (.inr rfl) rfl) ?_
    refine AR.nil ?_
    refine hK9 _ (AWP.weak (Weak.kp (fr' := [(0, _), (3, _), (4, _), (5, _), (6, _), (10, _)]) ⟨rfl, rfl, rfl, rfl, rfl, rfl, trivial⟩) ?_)
    clear hK9 K9
    refine awp_block ?_
    refine awp_loopS (fun (q : Nat) => ⟨[(0, u64s l), (3, u64 (((Bv.list l[k]).take q).foldl (fun (s : BitVec 64) (k : Nat) => s ||| Bv.bit (k : Int)) (Bv.joinB (l.take k)))), (4, i64 k), (5, ints (Bv.list l[k])), (6, i64 q)], .empty⟩) (fun (q : Nat) => q ≤ (Bv.list l[k]).length) (fun (q : Nat) => (Bv.list l[k]).length - q) (0) (by simp) (Weak.keep ⟨rfl, rfl, rfl, rfl, rfl, trivial⟩) ?_
    intro q hq
    have h6 := h64 l[k]
    refine awp_seqK fun K10 hK10 => ?_
    refine awp_seqK fun K11 hK11 => ?_
    refine awp_reg rfl ?_
    refine AR.op rfl (aop_move (.inl rfl) rfl) ?_
    refine AR.op rfl (aop_move (.inl rfl) rfl) ?_
    refine AR.op rfl ((aop_len rfl rfl rfl el29).conv (by rw [List.length_map])) ?_
    refine (show AR _ _ _ _ [(0, _), (3, _), (4, _), (5, _), (6, _), (18, _), (19, _), (20, _)] _ _ from ?_)
    refine AR.op rfl (aop_lss rfl rfl rfl) ?_
    refine AR.nil ?_
    refine hK11 _ (AWP.weak (Weak.kp (fr' := [(0, _), (3, _), (4, _), (5, _), (6, _), (21, _)]) ⟨rfl, rfl, rfl, rfl, rfl, rfl, trivial⟩) ?_)
    clear hK11 K11
    refine awp_cond rfl (fun h => ?_) (fun h => ?_)
    · have hlt2 : q < (Bv.list l[k]).length := by have := of_decide_eq_true h; omega
      refine awp_skip ?_
      refine hK10 _ ?_
      clear hK10 K10
      refine awp_seqK fun K12 hK12 => ?_
      refine awp_block ?_
      refine awp_reg rfl ?_
      refine AR.op rfl (aop_move (.inl rfl) rfl) ?_
      refine AR.op rfl (aop_move (.inl rfl) rfl) ?_
      refine AR.op rfl (aop_move (.inl rfl) rfl) ?_
      refine (show AR _ _ _ _ [(0, _), (3, _), (4, _), (5, _), (6, _), (21, _), (24, _), (25, _), (26, _)] _ _ from ?_)
      refine AR.op rfl (aop_index_sl rfl rfl (.inl rfl) rfl el29 (rfl) (get_i64l _ hlt2) (rfl)) ?_
      first | refine AR.op rfl (aop_load_pp rfl rfl sz3 (rfl)) ?_ | refine AR.op rfl (aop_load_ref rfl rfl rfl (rfl) sz3 (rfl)) ?_
      refine AR.op rfl (aop_call1 rfl rfl (by simp) (with_ok W0 _ _)) ?_
      refine (show AR _ _ _ _ [(0, _), (3, _), (4, _), (5, _), (6, _), (21, _), (24, _), (25, _), (26, _), (27, _), (28, _), (29, _)] _ _ from ?_)
      refine AR.op rfl (aop_move (.inr rfl) rfl) ?_
      refine AR.nil ?_
      refine hK12 _ (AWP.weak (Weak.kp (fr' := [(0, _), (3, _), (4, _), (5, _), (6, _), (21, _)]) ⟨rfl, rfl, rfl, rfl, rfl, rfl, trivial⟩) ?_)
      clear hK12 K12
      refine awp_reg rfl ?_
      refine AR.op rfl (aop_move (.inl rfl) rfl) ?_
      refine AR.op rfl (aop_add rfl rfl rfl (i64_wrap (by omega) (by omega))) ?_
      refine AR.op rfl (aop_move (.inr rfl) rfl) ?_
      refine AR.nil ?_
      refine ⟨q + 1, hlt2, by omega, Weak.keep ⟨rfl, ?_, rfl, rfl, rfl, trivial⟩⟩
      rw [List.take_succ_eq_append_getElem hlt2, List.foldl_append]; rfl
    · have hge2 : q = (Bv.list l[k]).length := by have := of_decide_eq_false h; omega
      subst hge2
      rw [List.take_length]
      refine awp_exit ?_
      refine hK7 _ ?_
      clear hK10 K10
      clear hK7 K7
      refine awp_reg rfl ?_
      refine AR.op rfl (aop_move (.inl rfl) rfl) ?_
      refine AR.op rfl (aop_add rfl rfl rfl (i64_wrap (by omega) (by omega))) ?_
      refine AR.op rfl (aop_move (.inr rfl) rfl) ?_
      refine AR.nil ?_
      refine ⟨k + 1, hlt, by omega, Weak.keep ⟨rfl, ?_, rfl, trivial⟩⟩
      rw [Bv.take_join l k hlt, ← Bv.foldl_list]; rfl
  · have hge : k = l.length := by have := of_decide_eq_false h; omega
    subst hge
    refine awp_exit ?_
    refine hK3 _ ?_
    clear hK5 K5
    clear hK3 K3
    refine awp_seqK fun K13 hK13 => ?_
    refine awp_reg rfl ?_
    refine AR.op rfl (aop_move (.inl rfl) rfl) ?_
    refine AR.op rfl (aop_move (.inr rfl) rfl) ?_
    refine AR.nil ?_
    refine hK13 _ (AWP.weak (Weak.kp (fr' := [(0, _), (2, _), (3, _), (4, _), (10, _)]) ⟨rfl, rfl, rfl, rfl, rfl, trivial⟩) ?_)
    clear hK13 K13
    refine awp_ret ?_
    refine ⟨.inr rfl, _, rfl, ?_⟩
    rw [show Bv.joinB l = Bv.joinB (l.take l.length) by rw [List.take_length]]; rfl

theorem of_ok (W0 : World) (l : List Int) (hl : l.length ≤ 9223372036854775807) : Fun1 Tryd.prog W0 13 [i64s l] (.tuple [u64 (Bv.ofS l).1, i64 (Bv.ofS l).2]) := by
  refine fun1_of_awp Tryd.func13 rfl (by kernel_rfl) Tryd.ntmps13 (by simp) (by simp) ?_
  refine awp_seqK fun K1 hK1 => ?_
  refine awp_reg rfl ?_
  refine AR.op rfl (aop_move (.inr rfl) rfl) ?_
  refine AR.op rfl (aop_move (.inr rfl) rfl) ?_
  refine AR.nil ?_
  refine hK1 _ (AWP.weak (Weak.kp (fr' := [(0, _), (2, _), (3, _)]) ⟨rfl, rfl, rfl, trivial⟩) ?_)
  clear hK1 K1
  refine awp_seqK fun K2 hK2 => ?_
  refine awp_reg rfl ?_
  refine AR.op rfl (aop_move (.inr rfl) rfl) ?_
  refine AR.nil ?_
  refine hK2 _ (AWP.weak (Weak.kp (fr' := [(0, _), (2, _), (3, _), (4, _)]) ⟨rfl, rfl, rfl, rfl, trivial⟩) ?_)
  clear hK2 K2
  refine awp_seqK fun K3 hK3 => ?_
  refine awp_seqK fun K4 hK4 => ?_
  refine awp_reg rfl ?_
  refine AR.op rfl (aop_move (.inl rfl) rfl) ?_
  refine AR.op rfl ((aop_len rfl rfl rfl el29).conv (by rw [List.length_map])) ?_
  refine AR.op rfl (aop_move (.inl rfl) rfl) ?_
  refine AR.nil ?_
  refine hK4 _ (AWP.weak (Weak.kp (fr' := [(0, _), (2, _), (3, _), (4, _), (7, _), (8, _), (9, _)]) ⟨rfl, rfl, rfl, rfl, rfl, rfl, rfl, trivial⟩) ?_)
  clear hK4 K4
  refine awp_block ?_
  refine awp_loopS (fun (k : Nat) => ⟨[(4, u64 (Bv.orAll (l.take k))), (7, i64s l), (8, i64 l.length), (9, i64 k)], .empty⟩) (fun (k : Nat) => k ≤ l.length ∧ ∀ j, j < k → (hj : j < l.length) → Bv.bit l[j] ≠ 0#64) (fun (k : Nat) => l.length - k) (0) (⟨Nat.zero_le _, fun j hj => absurd hj (Nat.not_lt_zero j)⟩) (Weak.keep ⟨rfl, rfl, rfl, rfl, trivial⟩) ?_
  rintro k ⟨hk, hall⟩
  refine awp_seqK fun K5 hK5 => ?_
  refine awp_reg rfl ?_
  refine AR.op rfl (aop_lss rfl rfl rfl) ?_
  refine AR.nil ?_
  refine hK5 _ (AWP.weak (Weak.kp (fr' := [(4, _), (7, _), (8, _), (9, _), (10, _)]) ⟨rfl, rfl, rfl, rfl, rfl, trivial⟩) ?_)
  clear hK5 K5
  refine awp_seqK fun K6 hK6 => ?_
  refine awp_cond rfl (fun h => ?_) (fun h => ?_)
  · have hlt : k < l.length := by have := of_decide_eq_true h; omega
    refine awp_skip ?_
    refine hK6 _ ?_
    clear hK6 K6
    refine awp_seqK fun K7 hK7 => ?_
    refine awp_block ?_
    refine awp_seqK fun K8 hK8 => ?_
    refine awp_reg rfl ?_
    refine AR.op rfl (aop_index_sl rfl rfl (.inl rfl) rfl el29 (rfl) (get_i64s l hlt) (rfl)) ?_
    first | refine AR.op rfl (aop_load_pp rfl rfl sz3 (rfl)) ?_ | refine AR.op rfl (aop_load_ref rfl rfl rfl (rfl) sz3 (rfl)) ?_
    refine AR.op rfl (aop_move (.inr rfl) rfl) ?_
    refine AR.nil ?_
    refine hK8 _ (AWP.weak (Weak.kp (fr' := [(4, _), (6, _), (7, _), (8, _), (9, _), (10, _)]) ⟨rfl, rfl, rfl, rfl, rfl, rfl, trivial⟩) ?_)
    clear hK8 K8
    refine awp_seqK fun K9 hK9 => ?_
    refine awp_seqK fun K10 hK10 => ?_
    refine awp_reg rfl ?_
    refine AR.op rfl (aop_move (.inl rfl) rfl) ?_
    refine AR.op rfl (aop_call1 rfl rfl (by simp) (bit_ok W0 _)) ?_
    refine AR.op rfl (aop_eql64 (b := 0#64) rfl rfl rfl) ?_
    refine AR.nil ?_
    refine hK10 _ (AWP.weak (Weak.kp (fr' := [(4, _), (6, _), (7, _), (8, _), (9, _), (10, _), (15, _)]) ⟨rfl, rfl, rfl, rfl, rfl, rfl, rfl, trivial⟩) ?_)
    clear hK10 K10
    refine awp_cond rfl (fun h => ?_) (fun h => ?_)
    · have he : Bv.bit l[k] = 0#64 := of_decide_eq_true h
      refine awp_seqK fun K11 hK11 => ?_
      refine awp_reg rfl ?_
      refine AR.op rfl (aop_move (.inr rfl) rfl) ?_
      refine AR.op rfl (aop_move (.inr rfl) rfl) ?_
      refine AR.nil ?_
      refine hK11 _ (AWP.weak (Weak.kp (fr' := [(2, _), (3, _), (4, _), (6, _), (7, _), (8, _), (9, _), (10, _), (15, _)]) ⟨rfl, rfl, rfl, rfl, rfl, rfl, rfl, rfl, rfl, trivial⟩) ?_)
      clear hK11 K11
      refine awp_ret ?_
      refine ⟨.inr rfl, _, rfl, ?_⟩
      rw [Bv.ofS_no hlt he]; rfl
    · have hne : Bv.bit l[k] ≠ 0#64 := of_decide_eq_false h
      refine awp_skip ?_
      refine hK9 _ ?_
      clear hK9 K9
      refine awp_reg rfl ?_
      refine AR.op rfl (aop_move (.inl rfl) rfl) ?_
      refine AR.op rfl (aop_move (.inl rfl) rfl) ?_
      refine AR.op rfl (aop_call1 rfl rfl (by simp) (bit_ok W0 _)) ?_
      refine (show AR _ _ _ _ [(4, _), (6, _), (7, _), (8, _), (9, _), (10, _), (15, _), (16, _), (17, _), (18, _)] _ _ from ?_)
      refine AR.op rfl (aop_or rfl rfl rfl) ?_
      refine AR.op rfl (aop_move (.inr rfl) rfl) ?_
      refine AR.nil ?_
      refine hK7 _ (AWP.weak (Weak.kp (fr' := [(4, _), (6, _), (7, _), (8, _), (9, _), (10, _), (15, _)]) ⟨rfl, rfl, rfl, rfl, rfl, rfl, rfl, trivial⟩) ?_)
      clear hK7 K7
      refine awp_reg rfl ?_
      refine AR.op rfl (aop_add rfl rfl rfl (i64_wrap (by omega) (by omega))) ?_
      refine AR.op rfl (aop_move (.inl rfl) rfl) ?_
      refine AR.nil ?_
      refine ⟨k + 1, ⟨hlt, fun j hj hl => ?_⟩, by omega, Weak.keep ⟨?_, rfl, rfl, rfl, trivial⟩⟩
      · rcases Nat.lt_or_ge j k with h1 | h1
        · exact hall j h1 hl
        · have : j = k := by omega
          subst this
          exact hne
      · rw [Bv.orAll_take l k hlt]; rfl
  · have hge : k = l.length := by have := of_decide_eq_false h; omega
    subst hge
    refine awp_exit ?_
    refine hK3 _ ?_
    clear hK6 K6
    clear hK3 K3
    refine awp_seqK fun K12 hK12 => ?_
    refine awp_reg rfl ?_
    refine AR.op rfl (aop_move (.inl rfl) rfl) ?_
    refine AR.op rfl (aop_move (.inr rfl) rfl) ?_
    refine AR.op rfl (aop_move (.inr rfl) rfl) ?_
    refine AR.nil ?_
    refine hK12 _ (AWP.weak (Weak.kp (fr' := [(2, _), (3, _), (4, _), (7, _), (8, _), (9, _), (10, _)]) ⟨rfl, rfl, rfl, rfl, rfl, rfl, rfl, trivial⟩) ?_)
    clear hK12 K12
    refine awp_ret ?_
    refine ⟨.inr rfl, _, rfl, ?_⟩
    rw [Bv.ofS_ok (fun j hj => hall j hj hj), List.take_length]; rfl

theorem ints_ok (W0 : World) (a b : List Int) (ha : a.length ≤ 9223372036854775807) : Fun1 Tryd.prog W0 19 [i64s a, i64s b] (bl (decide (a = b))) := by
  refine fun1_of_awp Tryd.func19 rfl (by kernel_rfl) Tryd.ntmps19 (by simp) (by simp) ?_
  refine awp_seqK fun K1 hK1 => ?_
  refine awp_reg rfl ?_
  refine AR.op rfl (aop_move (.inr rfl) rfl) ?_
  refine AR.nil ?_
  refine hK1 _ (AWP.weak (Weak.kp (fr' := [(0, _), (1, _), (4, _)]) ⟨rfl, rfl, rfl, trivial⟩) ?_)
  clear hK1 K1
  refine awp_seqK fun K2 hK2 => ?_
  refine awp_seqK fun K3 hK3 => ?_
  refine awp_reg rfl ?_
  refine AR.op rfl (aop_move (.inl rfl) rfl) ?_
  refine AR.op rfl ((aop_len rfl rfl rfl el29).conv (by rw [List.length_map])) ?_
  refine AR.op rfl (aop_move (.inl rfl) rfl) ?_
  refine (show AR _ _ _ _ [(0, _), (1, _), (4, _), (6, _), (7, _), (8, _)] _ _ from ?_)
  refine AR.op rfl ((aop_len rfl rfl rfl el29).conv (by rw [List.length_map])) ?_
  refine AR.op rfl (aop_neq rfl rfl rfl) ?_
  refine AR.nil ?_
  refine hK3 _ (AWP.weak (Weak.kp (fr' := [(0, _), (1, _), (4, _), (10, _)]) ⟨rfl, rfl, rfl, rfl, trivial⟩) ?_)
  clear hK3 K3
  refine awp_cond rfl (fun h => ?_) (fun h => ?_)
  · have hne : a.length ≠ b.length := by have := of_decide_eq_true h; omega
    refine awp_seqK fun K4 hK4 => ?_
    refine awp_reg rfl ?_
    refine AR.op rfl (aop_move (.inr rfl) rfl) ?_
    refine AR.nil ?_
    refine hK4 _ (AWP.weak (Weak.kp (fr' := [(0, _), (1, _), (4, _), (10, _)]) ⟨rfl, rfl, rfl, rfl, trivial⟩) ?_)
    clear hK4 K4
    refine awp_ret ?_
    refine ⟨.inr rfl, _, rfl, ?_⟩
    have e : decide (a = b) = false := decide_eq_false (fun h => hne (by rw [h]))
    rw [e]; rfl
  · have hlen : a.length = b.length := by have := of_decide_eq_false h; omega
    refine awp_skip ?_
    refine hK2 _ ?_
    clear hK2 K2
    refine awp_seqK fun K5 hK5 => ?_
    refine awp_seqK fun K6 hK6 => ?_
    refine awp_reg rfl ?_
    refine AR.op rfl (aop_move (.inr rfl) rfl) ?_
    refine AR.nil ?_
    refine hK6 _ (AWP.weak (Weak.kp (fr' := [(0, _), (1, _), (4, _), (5, _), (10, _)]) ⟨rfl, rfl, rfl, rfl, rfl, trivial⟩) ?_)
    clear hK6 K6
    refine awp_block ?_
    refine awp_loopS (fun (k : Nat) => ⟨[(0, i64s a), (1, i64s b), (5, i64 k)], .empty⟩) (fun (k : Nat) => k ≤ a.length ∧ ∀ j, j < k → a[j]? = b[j]?) (fun (k : Nat) => a.length - k) (0) (⟨Nat.zero_le _, fun j hj => absurd hj (Nat.not_lt_zero j)⟩) (Weak.keep ⟨rfl, rfl, rfl, trivial⟩) ?_
    rintro k ⟨hk, hall⟩
    refine awp_seqK fun K7 hK7 => ?_
    refine awp_seqK fun K8 hK8 => ?_
    refine awp_reg rfl ?_
    refine AR.op rfl (aop_move (.inl rfl) rfl) ?_
    refine AR.op rfl (aop_move (.inl rfl) rfl) ?_
    refine AR.op rfl ((aop_len rfl rfl rfl el29).conv (by rw [List.length_map])) ?_
    refine (show AR _ _ _ _ [(0, _), (1, _), (5, _), (11, _), (12, _), (13, _)] _ _ from ?_)
    refine AR.op rfl (aop_lss rfl rfl rfl) ?_
    refine AR.nil ?_
    refine hK8 _ (AWP.weak (Weak.kp (fr' := [(0, _), (1, _), (5, _), (14, _)]) ⟨rfl, rfl, rfl, rfl, trivial⟩) ?_)
    clear hK8 K8
    refine awp_cond rfl (fun h => ?_) (fun h => ?_)
    · have hlt : k < a.length := by have := of_decide_eq_true h; omega
      have hlt2 : k < b.length := by omega
      refine awp_skip ?_
      refine hK7 _ ?_
      clear hK7 K7
      refine awp_seqK fun K9 hK9 => ?_
      refine awp_block ?_
      refine awp_seqK fun K10 hK10 => ?_
      refine awp_drw (by kernel_rfl) (by kernel_rfl) rfl ?_
      refine ARQ.op rfl (aop_move (.inl rfl) rfl) ?_
      refine ARQ.op rfl (aop_move (.inl rfl) rfl) ?_
      refine ARQ.op rfl (aop_index_sl rfl rfl (.inl rfl) rfl el29 (rfl) (get_i64s a hlt) (rfl)) ?_
      refine (show ARQ _ _ _ _ _ [(0, _), (1, _), (5, _), (14, _), (17, _), (18, _), (19, _)] _ from ?_)
      first | refine ARQ.op rfl (aop_load_pp rfl rfl sz3 (rfl)) ?_ | refine ARQ.op rfl (aop_load_ref rfl rfl rfl (rfl) sz3 (rfl)) ?_
      refine ARQ.op rfl (aop_move (.inl rfl) rfl) ?_
      refine ARQ.op rfl (aop_move (.inl rfl) rfl) ?_
      refine (show ARQ _ _ _ _ _ [(0, _), (1, _), (5, _), (14, _), (17, _), (18, _), (19, _), (20, _), (21, _), (22, _)] _ from ?_)
      refine ARQ.op rfl (aop_index_sl rfl rfl (.inl rfl) rfl el29 (rfl) (get_i64s b hlt2) (rfl)) ?_
      first | refine ARQ.op rfl (aop_load_pp rfl rfl sz3 (rfl)) ?_ | refine ARQ.op rfl (aop_load_ref rfl rfl rfl (rfl) sz3 (rfl)) ?_
      refine ARQ.op rfl (aop_neq rfl rfl rfl) ?_
      refine ARQ.nil ?_
      refine hK10 _ (AWP.weak (Weak.kp (fr' := [(0, _), (1, _), (5, _), (14, _), (25, _)]) ⟨rfl, rfl, rfl, rfl, rfl, trivial⟩) ?_)
      clear hK10 K10
      refine awp_cond rfl (fun h => ?_) (fun h => ?_)
      · have he : a[k] ≠ b[k] := of_decide_eq_true h
        refine awp_seqK fun K11 hK11 => ?_
        refine awp_reg rfl ?_
        refine AR.op rfl (aop_move (.inr rfl) rfl) ?_
        refine AR.nil ?_
        refine hK11 _ (AWP.weak (Weak.kp (fr' := [(0, _), (1, _), (4, _), (5, _), (14, _), (25, _)]) ⟨rfl, rfl, rfl, rfl, rfl, rfl, trivial⟩) ?_)
        clear hK11 K11
        refine awp_ret ?_
        refine ⟨.inr rfl, _, rfl, ?_⟩
        have e : decide (a = b) = false := decide_eq_false (fun h => he (by subst h; rfl))
        rw [e]; rfl
      · have he : a[k] = b[k] := Classical.byContradiction (of_decide_eq_false h)
        refine awp_skip ?_
        refine hK9 _ ?_
        clear hK9 K9
        refine awp_reg rfl ?_
        refine AR.op rfl (aop_move (.inl rfl) rfl) ?_
        refine AR.op rfl (aop_add rfl rfl rfl (i64_wrap (by omega) (by omega))) ?_
        refine AR.op rfl (aop_move (.inr rfl) rfl) ?_
        refine AR.nil ?_
        refine ⟨k + 1, ⟨hlt, fun j hj => ?_⟩, by omega, Weak.keep ⟨rfl, rfl, rfl, trivial⟩⟩
        rcases Nat.lt_or_ge j k with h1 | h1
        · exact hall j h1
        · have : j = k := by omega
          subst this
          rw [List.getElem?_eq_getElem hlt, List.getElem?_eq_getElem hlt2, he]
    · have hge : k = a.length := by have := of_decide_eq_false h; omega
      subst hge
      refine awp_exit ?_
      refine hK5 _ ?_
      clear hK7 K7
      clear hK5 K5
      refine awp_seqK fun K12 hK12 => ?_
      refine awp_reg rfl ?_
      refine AR.op rfl (aop_move (.inr rfl) rfl) ?_
      refine AR.nil ?_
      refine hK12 _ (AWP.weak (Weak.kp (fr' := [(0, _), (1, _), (4, _), (5, _), (14, _)]) ⟨rfl, rfl, rfl, rfl, rfl, trivial⟩) ?_)
      clear hK12 K12
      refine awp_ret ?_
      refine ⟨.inr rfl, _, rfl, ?_⟩
      have e : decide (a = b) = true := decide_eq_true (List.ext_getElem? fun j => by
        rcases Nat.lt_or_ge j a.length with h1 | h1
        · exact hall j h1
        · rw [List.getElem?_eq_none h1, List.getElem?_eq_none (by omega)])
      rw [e]; rfl

theorem awake_ok (W0 : World) (hT : Tab W0) : Fun1 Tryd.prog W0 7 [] (bl true) := by
  refine fun1_of_awp Tryd.func7 rfl (by kernel_rfl) Tryd.ntmps7 (by simp) (by simp) ?_
  refine awp_seqK fun K1 hK1 => ?_
  refine awp_reg rfl ?_
  refine AR.op rfl (aop_move (.inr rfl) rfl) ?_
  refine AR.nil ?_
  refine hK1 _ (AWP.weak (Weak.kp (fr' := [(0, _)]) ⟨rfl, trivial⟩) ?_)
  clear hK1 K1
  refine awp_seqK fun K2 hK2 => ?_
  refine awp_reg rfl ?_
  refine AR.op rfl (aop_buildSlice rfl (xo := [.const (.int .i64 5), .const (.int .i64 0), .const (.int .i64 5)]) rfl rfl rfl (by simp [AV.solid]) (by simp [AV.flat]) el29 ze29 (by decide)) ?_
  refine AR.op rfl (aop_call1w rfl rfl rfl (by simp) (of_ok W0 [5, 0, 5] (by decide))) ?_
  refine AR.op rfl (aop_move (.inl rfl) rfl) ?_
  refine (show AR _ _ _ _ [(0, _), (6, _), (7, _), (5, _)] _ _ from ?_)
  refine AR.op rfl (aop_extract rfl rfl rfl) ?_
  refine AR.op rfl (aop_extract rfl rfl rfl) ?_
  refine AR.op rfl (aop_move (.inr rfl) rfl) ?_
  refine (show AR _ _ _ _ [(0, _), (6, _), (7, _), (5, _), (8, _), (9, _), (1, _)] _ _ from ?_)
  refine AR.op rfl (aop_move (.inr rfl) rfl) ?_
  refine AR.nil ?_
  refine hK2 _ (AWP.weak (Weak.kp (fr' := [(0, _), (1, _), (2, _)]) ⟨rfl, rfl, rfl, trivial⟩) ?_)
  clear hK2 K2
  refine awp_seqK fun K3 hK3 => ?_
  refine awp_reg rfl ?_
  refine AR.op rfl (aop_buildSlice rfl (xo := [.const (.int .i64 64)]) rfl rfl rfl (by simp [AV.solid]) (by simp [AV.flat]) el29 ze29 (by decide)) ?_
  refine AR.op rfl (aop_call1w rfl rfl rfl (by simp) (of_ok W0 [64] (by decide))) ?_
  refine AR.op rfl (aop_move (.inl rfl) rfl) ?_
  refine (show AR _ _ _ _ [(0, _), (1, _), (2, _), (11, _), (12, _), (10, _)] _ _ from ?_)
  refine AR.op rfl (aop_extract rfl rfl rfl) ?_
  refine AR.op rfl (aop_extract rfl rfl rfl) ?_
  refine AR.op rfl (aop_move (.inr rfl) rfl) ?_
  refine (show AR _ _ _ _ [(0, _), (1, _), (2, _), (11, _), (12, _), (10, _), (13, _), (14, _), (3, _)] _ _ from ?_)
  refine AR.op rfl (aop_move (.inr rfl) rfl) ?_
  refine AR.nil ?_
  refine hK3 _ (AWP.weak (Weak.kp (fr' := [(0, _), (1, _), (2, _), (4, _)]) ⟨rfl, rfl, rfl, rfl, trivial⟩) ?_)
  clear hK3 K3
  refine awp_seqK fun K4 hK4 => ?_
  refine awp_reg rfl ?_
  refine AR.op rfl (aop_move (.inl rfl) rfl) ?_
  refine AR.op rfl ((aop_eql rfl rfl rfl).tt (by decide)) ?_
  refine AR.op rfl (aop_move (.inl rfl) rfl) ?_
  refine (show AR _ _ _ _ [(0, _), (1, _), (2, _), (4, _), (15, _), (16, _), (17, _)] _ _ from ?_)
  refine AR.op rfl (aop_move (.inl rfl) rfl) ?_
  refine AR.op rfl ((aop_eql64 (b := 33#64) rfl rfl rfl).tt (by decide)) ?_
  refine AR.op rfl (aop_pick rfl rfl rfl) ?_
  refine (show AR _ _ _ _ [(0, _), (1, _), (2, _), (4, _), (15, _), (16, _), (17, _), (18, _), (19, _), (20, _)] _ _ from ?_)
  refine AR.op rfl (aop_move (.inl rfl) rfl) ?_
  refine AR.op rfl (aop_move (.inl rfl) rfl) ?_
  refine AR.op rfl ((aop_eql rfl rfl rfl).tt (by decide)) ?_
  refine (show AR _ _ _ _ [(0, _), (1, _), (2, _), (4, _), (15, _), (16, _), (17, _), (18, _), (19, _), (20, _), (21, _), (22, _), (23, _)] _ _ from ?_)
  refine AR.op rfl (aop_pick rfl rfl rfl) ?_
  refine AR.op rfl (aop_move (.inl rfl) rfl) ?_
  refine AR.op rfl (aop_call1 rfl rfl (by simp) (least_ok W0 hT 40#64)) ?_
  refine (show AR _ _ _ _ [(0, _), (1, _), (2, _), (4, _), (15, _), (16, _), (17, _), (18, _), (19, _), (20, _), (21, _), (22, _), (23, _), (24, _), (25, _), (26, _)] _ _ from ?_)
  refine AR.op rfl ((aop_eql rfl rfl rfl).tt (by decide)) ?_
  refine AR.op rfl (aop_pick rfl rfl rfl) ?_
  refine AR.op rfl (aop_move (.inl rfl) rfl) ?_
  refine (show AR _ _ _ _ [(0, _), (1, _), (2, _), (4, _), (15, _), (16, _), (17, _), (18, _), (19, _), (20, _), (21, _), (22, _), (23, _), (24, _), (25, _), (26, _), (27, _), (28, _), (29, _)] _ _ from ?_)
  refine AR.op rfl ((aop_call1 rfl rfl (by simp) (sub_ok W0 1#64 33#64)).tt (by decide)) ?_
  refine AR.op rfl (aop_pick rfl rfl rfl) ?_
  refine AR.op rfl (aop_move (.inl rfl) rfl) ?_
  refine (show AR _ _ _ _ [(0, _), (1, _), (2, _), (4, _), (15, _), (16, _), (17, _), (18, _), (19, _), (20, _), (21, _), (22, _), (23, _), (24, _), (25, _), (26, _), (27, _), (28, _), (29, _), (30, _), (31, _), (32, _)] _ _ from ?_)
  refine AR.op rfl ((aop_call1 rfl rfl (by simp) (list_ok W0 hT 33#64)).conv (show _ = AV.sl [i64 0, i64 5] by rw [show Bv.list 33#64 = [0, 5] by decide]; rfl)) ?_
  refine AR.op rfl (aop_buildSlice rfl (xo := [.const (.int .i64 0), .const (.int .i64 5)]) rfl rfl rfl (by simp [AV.solid]) (by simp [AV.flat]) el29 ze29 (by decide)) ?_
  refine AR.op rfl ((aop_call1w rfl rfl rfl (by simp) (ints_ok W0 [0, 5] [0, 5] (by decide))).tt (rfl)) ?_
  refine (show AR _ _ _ _ [(0, _), (1, _), (2, _), (4, _), (15, _), (16, _), (17, _), (18, _), (19, _), (20, _), (21, _), (22, _), (23, _), (24, _), (25, _), (26, _), (27, _), (28, _), (29, _), (30, _), (31, _), (32, _), (33, _), (34, _), (35, _)] _ _ from ?_)
  refine AR.op rfl (aop_pick rfl rfl rfl) ?_
  refine AR.op rfl (aop_move (.inl rfl) rfl) ?_
  refine AR.op rfl (aop_buildSlice rfl (xo := [.const (.int .u64 1), .const (.int .u64 32)]) rfl rfl rfl (by simp [AV.solid]) (by simp [AV.flat]) el22 ze22 (by decide)) ?_
  refine (show AR _ _ _ _ [(0, _), (1, _), (2, _), (4, _), (15, _), (16, _), (17, _), (18, _), (19, _), (20, _), (21, _), (22, _), (23, _), (24, _), (25, _), (26, _), (27, _), (28, _), (29, _), (30, _), (31, _), (32, _), (33, _), (34, _), (35, _), (36, _), (37, _), (38, _)] _ _ from ?_)
  refine AR.op rfl (aop_call1w rfl rfl rfl (by simp) (join_ok W0 [1#64, 32#64] (by decide))) ?_
  refine AR.op rfl ((aop_eql64 (b := 33#64) rfl rfl rfl).tt (by decide)) ?_
  refine AR.op rfl (aop_pick rfl rfl rfl) ?_
  refine (show AR _ _ _ _ [(0, _), (1, _), (2, _), (4, _), (15, _), (16, _), (17, _), (18, _), (19, _), (20, _), (21, _), (22, _), (23, _), (24, _), (25, _), (26, _), (27, _), (28, _), (29, _), (30, _), (31, _), (32, _), (33, _), (34, _), (35, _), (36, _), (37, _), (38, _), (39, _), (40, _), (41, _)] _ _ from ?_)
  refine AR.op rfl (aop_move (.inr rfl) rfl) ?_
  refine AR.nil ?_
  refine hK4 _ (AWP.weak (Weak.kp (fr' := [(0, _), (1, _), (2, _), (4, _)]) ⟨rfl, rfl, rfl, rfl, trivial⟩) ?_)
  clear hK4 K4
  refine awp_ret ?_
  refine ⟨.inr rfl, _, rfl, ?_⟩
  rfl

theorem law_ok (W0 : World) (hT : Tab W0) (l : List (BitVec 64)) (a b : BitVec 64) (hl : l.length ≤ 9223372036854775807) : Fun1 Tryd.prog W0 3 [u64s l, u64 a, u64 b] (bl true) := by
  refine fun1_of_awp Tryd.func3 rfl (by kernel_rfl) Tryd.ntmps3 (by simp) (by simp) ?_
  refine awp_seqK fun K1 hK1 => ?_
  refine awp_reg rfl ?_
  refine AR.op rfl (aop_move (.inr rfl) rfl) ?_
  refine AR.nil ?_
  refine hK1 _ (AWP.weak (Weak.kp (fr' := [(0, _), (1, _), (2, _), (6, _)]) ⟨rfl, rfl, rfl, rfl, trivial⟩) ?_)
  clear hK1 K1
  refine awp_seqK fun K2 hK2 => ?_
  refine awp_reg rfl ?_
  refine AR.op rfl (aop_call1 rfl rfl (by simp) (awake_ok W0 hT)) ?_
  refine AR.op rfl (aop_move (.inr rfl) rfl) ?_
  refine AR.nil ?_
  refine hK2 _ (AWP.weak (Weak.kp (fr' := [(0, _), (1, _), (2, _), (6, _), (7, _)]) ⟨rfl, rfl, rfl, rfl, rfl, trivial⟩) ?_)
  clear hK2 K2
  refine awp_seqK fun K3 hK3 => ?_
  refine awp_seqK fun K4 hK4 => ?_
  refine awp_reg rfl ?_
  refine AR.op rfl (aop_move (.inl rfl) rfl) ?_
  refine AR.op rfl (aop_not rfl rfl) ?_
  refine AR.nil ?_
  refine hK4 _ (AWP.weak (Weak.kp (fr' := [(0, _), (1, _), (2, _), (6, _), (7, _), (14, _)]) ⟨rfl, rfl, rfl, rfl, rfl, rfl, trivial⟩) ?_)
  clear hK4 K4
  refine awp_cond_f rfl ?_
  refine awp_skip ?_
  refine hK3 _ ?_
  clear hK3 K3
  refine awp_seqK fun K5 hK5 => ?_
  refine awp_seqK fun K6 hK6 => ?_
  refine awp_reg rfl ?_
  refine AR.op rfl (aop_move (.inl rfl) rfl) ?_
  refine AR.op rfl ((aop_len rfl rfl rfl el22).conv (by rw [List.length_map])) ?_
  refine AR.op rfl (aop_gtr rfl rfl rfl) ?_
  refine AR.nil ?_
  refine hK6 _ (AWP.weak (Weak.kp (fr' := [(0, _), (1, _), (2, _), (6, _), (7, _), (14, _), (17, _)]) ⟨rfl, rfl, rfl, rfl, rfl, rfl, rfl, trivial⟩) ?_)
  clear hK6 K6
  refine awp_cond rfl (fun h => ?_) (fun h => ?_)
  · skip
    refine awp_seqK fun K7 hK7 => ?_
    refine awp_reg rfl ?_
    refine AR.op rfl (aop_move (.inr rfl) rfl) ?_
    refine AR.nil ?_
    refine hK7 _ (AWP.weak (Weak.kp (fr' := [(0, _), (1, _), (2, _), (6, _), (7, _), (14, _), (17, _)]) ⟨rfl, rfl, rfl, rfl, rfl, rfl, rfl, trivial⟩) ?_)
    clear hK7 K7
    refine awp_ret ?_
    refine ⟨.inr rfl, _, rfl, ?_⟩
    rfl
  · have h100 : l.length ≤ 100 := by have := of_decide_eq_false h; omega
    refine awp_skip ?_
    refine hK5 _ ?_
    clear hK5 K5
    refine awp_seqK fun K8 hK8 => ?_
    refine awp_reg rfl ?_
    refine AR.op rfl (aop_move (.inr rfl) rfl) ?_
    refine AR.nil ?_
    refine hK8 _ (AWP.weak (Weak.kp (fr' := [(0, _), (1, _), (2, _), (6, _), (7, _), (8, _), (14, _), (17, _)]) ⟨rfl, rfl, rfl, rfl, rfl, rfl, rfl, rfl, trivial⟩) ?_)
    clear hK8 K8
    refine awp_seqK fun K9 hK9 => ?_
    refine awp_seqK fun K10 hK10 => ?_
    refine awp_reg rfl ?_
    refine AR.op rfl (aop_move (.inl rfl) rfl) ?_
    refine AR.op rfl ((aop_len rfl rfl rfl el22).conv (by rw [List.length_map])) ?_
    refine AR.op rfl (aop_sub rfl rfl rfl (i64_wrap (by omega) (by omega))) ?_
    refine (show AR _ _ _ _ [(0, _), (1, _), (2, _), (6, _), (7, _), (8, _), (14, _), (17, _), (18, _), (19, _), (20, _)] _ _ from ?_)
    refine AR.op rfl (aop_move (.inr rfl) rfl) ?_
    refine AR.nil ?_
    refine hK10 _ (AWP.weak (Weak.kp (fr' := [(0, _), (1, _), (2, _), (6, _), (7, _), (8, _), (9, _), (14, _), (17, _)]) ⟨rfl, rfl, rfl, rfl, rfl, rfl, rfl, rfl, rfl, trivial⟩) ?_)
    clear hK10 K10
    refine awp_block ?_
    refine awp_loopS (fun (k : Nat) => ⟨[(0, u64s l), (1, u64 a), (2, u64 b), (8, .view 0 0 ((l.reverse.take k).map u64).length), (9, i64 ((l.length : Int) - 1 - k))], ⟨1, [(0, (1, (l.reverse.take k).map u64))]⟩⟩) (fun (k : Nat) => k ≤ l.length) (fun (k : Nat) => l.length - k) (0) (by simp) (Weak.re [] [0] rfl rfl rfl (.new (.head _) Nat.one_pos) ⟨⟨_, rfl, .same _ noId_u64s⟩, ⟨_, rfl, .same _ (.imm _)⟩, ⟨_, rfl, .same _ (.imm _)⟩, ⟨_, rfl, .nil (.head _)⟩, ⟨_, rfl, see_i64 (by omega)⟩, trivial⟩) ?_
    intro k hk
    refine awp_seqK fun K11 hK11 => ?_
    refine awp_seqK fun K12 hK12 => ?_
    refine awp_reg rfl ?_
    refine AR.op rfl (aop_move (.inl rfl) rfl) ?_
    refine AR.op rfl (aop_geq rfl rfl rfl) ?_
    refine AR.nil ?_
    refine hK12 _ (AWP.weak (Weak.kp (fr' := [(0, _), (1, _), (2, _), (8, _), (9, _), (22, _)]) ⟨rfl, rfl, rfl, rfl, rfl, rfl, trivial⟩) ?_)
    clear hK12 K12
    refine awp_cond rfl (fun h => ?_) (fun h => ?_)
    · have hlt : k < l.length := by have := of_decide_eq_true h; omega
      refine awp_skip ?_
      refine hK11 _ ?_
      clear hK11 K11
      refine awp_seqK fun K13 hK13 => ?_
      refine awp_block ?_
      refine awp_reg rfl ?_
      refine AR.op rfl (aop_move (.inl rfl) rfl) ?_
      refine AR.op rfl (aop_move (.inl rfl) rfl) ?_
      refine AR.op rfl (aop_move (.inl rfl) rfl) ?_
      refine (show AR _ _ _ _ [(0, _), (1, _), (2, _), (8, _), (9, _), (22, _), (25, _), (26, _), (27, _)] _ _ from ?_)
      refine AR.op rfl (aop_index_sl rfl rfl (.inl rfl) rfl el22 (by omega) (get_map u64 l (k := l.length - 1 - k) (by omega)) (rfl)) ?_
      first | refine AR.op rfl (aop_load_pp rfl rfl sz23 (rfl)) ?_ | refine AR.op rfl (aop_load_ref rfl rfl rfl (rfl) sz23 (rfl)) ?_
      refine AR.op rfl (aop_buildSlice rfl (xo := [.tmp 29]) rfl rfl rfl (by simp [AV.solid]) (by simp [AV.flat]) el22 ze22 (by decide)) ?_
      refine (show AR _ _ _ _ [(0, _), (1, _), (2, _), (8, _), (9, _), (22, _), (25, _), (26, _), (27, _), (28, _), (29, _), (30, _)] _ _ from ?_)
      refine AR.op rfl (aop_app_view et22 rfl rfl (rfl) rfl rfl rfl rfl (flat_u64s) (by simp [AV.flat]) (by simp; omega)) ?_
      refine AR.op rfl (aop_move (.inr rfl) rfl) ?_
      refine AR.nil ?_
      refine hK13 _ (AWP.weak (Weak.kp (fr' := [(0, _), (1, _), (2, _), (8, _), (9, _), (22, _)]) ⟨rfl, rfl, rfl, rfl, rfl, rfl, trivial⟩) ?_)
      clear hK13 K13
      refine awp_reg rfl ?_
      refine AR.op rfl (aop_move (.inl rfl) rfl) ?_
      refine AR.op rfl (aop_sub rfl rfl rfl (i64_wrap (by omega) (by omega))) ?_
      refine AR.op rfl (aop_move (.inr rfl) rfl) ?_
      refine AR.nil ?_
      refine ⟨k + 1, hlt, by omega, ?_⟩
      rw [Bv.rev_take hlt, List.map_append]
      exact Weak.re [(0, 1)] [] rfl rfl rfl (.one rfl rfl noId_snoc64 Nat.one_pos) ⟨⟨_, rfl, .same _ noId_u64s⟩, ⟨_, rfl, .same _ (.imm _)⟩, ⟨_, rfl, .same _ (.imm _)⟩, ⟨_, rfl, .view rfl⟩, ⟨_, rfl, see_i64 (by omega)⟩, trivial⟩
    · have hge : k = l.length := by have := of_decide_eq_false h; omega
      subst hge
      rw [show l.reverse.take l.length = l.reverse by rw [← List.length_reverse, List.take_length]]
      refine awp_exit ?_
      refine hK9 _ ?_
      clear hK11 K11
      clear hK9 K9
      refine awp_seqK fun K14 hK14 => ?_
      refine awp_reg rfl ?_
      refine AR.op rfl (aop_move (.inl rfl) rfl) ?_
      refine AR.op rfl (aop_call1 rfl rfl (by simp) (join_ok W0 l hl)) ?_
      refine AR.op rfl (aop_move (.inr rfl) rfl) ?_
      refine AR.nil ?_
      refine hK14 _ (AWP.weak (Weak.kp (fr' := [(0, _), (1, _), (2, _), (8, _), (9, _), (10, _), (22, _)]) ⟨rfl, rfl, rfl, rfl, rfl, rfl, rfl, trivial⟩) ?_)
      clear hK14 K14
      refine awp_seqK fun K15 hK15 => ?_
      refine awp_seqK fun K16 hK16 => ?_
      refine awp_reg rfl ?_
      refine AR.op rfl (aop_move (.inr rfl) rfl) ?_
      refine AR.nil ?_
      refine hK16 _ (AWP.weak (Weak.kp (fr' := [(0, _), (1, _), (2, _), (8, _), (9, _), (10, _), (11, _), (22, _)]) ⟨rfl, rfl, rfl, rfl, rfl, rfl, rfl, rfl, trivial⟩) ?_)
      clear hK16 K16
      refine awp_block ?_
      refine awp_loopS (fun (k : Nat) => ⟨[(0, u64s l), (1, u64 a), (2, u64 b), (8, .view 0 0 (l.reverse.map u64).length), (10, u64 (Bv.joinB l)), (11, i64 k)], ⟨1, [(0, (1, l.reverse.map u64))]⟩⟩) (fun (k : Nat) => k ≤ l.length) (fun (k : Nat) => l.length - k) (0) (by simp) (Weak.keep ⟨rfl, rfl, rfl, rfl, rfl, rfl, trivial⟩) ?_
      intro k hk
      refine awp_seqK fun K17 hK17 => ?_
      refine awp_seqK fun K18 hK18 => ?_
      refine awp_reg rfl ?_
      refine AR.op rfl (aop_move (.inl rfl) rfl) ?_
      refine AR.op rfl (aop_move (.inl rfl) rfl) ?_
      refine AR.op rfl ((aop_len rfl rfl rfl el22).conv (by rw [List.length_map])) ?_
      refine (show AR _ _ _ _ [(0, _), (1, _), (2, _), (8, _), (10, _), (11, _), (34, _), (35, _), (36, _)] _ _ from ?_)
      refine AR.op rfl (aop_lss rfl rfl rfl) ?_
      refine AR.nil ?_
      refine hK18 _ (AWP.weak (Weak.kp (fr' := [(0, _), (1, _), (2, _), (8, _), (10, _), (11, _), (37, _)]) ⟨rfl, rfl, rfl, rfl, rfl, rfl, rfl, trivial⟩) ?_)
      clear hK18 K18
      refine awp_cond rfl (fun h => ?_) (fun h => ?_)
      · have hlt : k < l.length := by have := of_decide_eq_true h; omega
        refine awp_skip ?_
        refine hK17 _ ?_
        clear hK17 K17
        refine awp_seqK fun K19 hK19 => ?_
        refine awp_block ?_
        refine awp_seqK fun K20 hK20 => ?_
        refine awp_reg rfl ?_
        refine AR.op rfl (aop_move (.inl rfl) rfl) ?_
        refine AR.op rfl (aop_move (.inl rfl) rfl) ?_
        refine AR.op rfl (aop_index_sl rfl rfl (.inl rfl) rfl el22 (rfl) (get_map u64 l hlt) (rfl)) ?_
        refine (show AR _ _ _ _ [(0, _), (1, _), (2, _), (8, _), (10, _), (11, _), (37, _), (40, _), (41, _), (42, _)] _ _ from ?_)
        first | refine AR.op rfl (aop_load_pp rfl rfl sz23 (rfl)) ?_ | refine AR.op rfl (aop_load_ref rfl rfl rfl (rfl) sz23 (rfl)) ?_
        refine AR.op rfl (aop_move (.inl rfl) rfl) ?_
        refine AR.op rfl ((aop_call1 rfl rfl (by simp) (sub_ok W0 _ _)).tt (Bv.sub_joinB (List.getElem_mem hlt))) ?_
        refine (show AR _ _ _ _ [(0, _), (1, _), (2, _), (8, _), (10, _), (11, _), (37, _), (40, _), (41, _), (42, _), (43, _), (44, _), (45, _)] _ _ from ?_)
        refine AR.op rfl (aop_not rfl rfl) ?_
        refine AR.nil ?_
        refine hK20 _ (AWP.weak (Weak.kp (fr' := [(0, _), (1, _), (2, _), (8, _), (10, _), (11, _), (37, _), (46, _)]) ⟨rfl, rfl, rfl, rfl, rfl, rfl, rfl, rfl, trivial⟩) ?_)
        clear hK20 K20
        refine awp_cond_f rfl ?_
        refine awp_skip ?_
        refine hK19 _ ?_
        clear hK19 K19
        refine awp_reg rfl ?_
        refine AR.op rfl (aop_move (.inl rfl) rfl) ?_
        refine AR.op rfl (aop_add rfl rfl rfl (i64_wrap (by omega) (by omega))) ?_
        refine AR.op rfl (aop_move (.inr rfl) rfl) ?_
        refine AR.nil ?_
        refine ⟨k + 1, hlt, by omega, Weak.keep ⟨rfl, rfl, rfl, rfl, rfl, rfl, trivial⟩⟩
      · have hge : k = l.length := by have := of_decide_eq_false h; omega
        subst hge
        refine awp_exit ?_
        refine hK15 _ ?_
        clear hK17 K17
        clear hK15 K15
        refine awp_seqK fun K21 hK21 => ?_
        refine awp_reg rfl ?_
        refine AR.op rfl (aop_move (.inl rfl) rfl) ?_
        refine AR.op rfl (aop_move (.inl rfl) rfl) ?_
        refine AR.op rfl (aop_call1 rfl rfl (by simp) (rjoin_ok W0 l hl)) ?_
        refine (show AR _ _ _ _ [(0, _), (1, _), (2, _), (8, _), (10, _), (11, _), (37, _), (47, _), (48, _), (49, _)] _ _ from ?_)
        refine AR.op rfl ((aop_eql64 rfl rfl rfl).tt (rfl)) ?_
        refine AR.op rfl (aop_move (.inl rfl) rfl) ?_
        refine AR.op rfl (aop_move (.inl rfl) rfl) ?_
        refine (show AR _ _ _ _ [(0, _), (1, _), (2, _), (8, _), (10, _), (11, _), (37, _), (47, _), (48, _), (49, _), (50, _), (51, _), (52, _)] _ _ from ?_)
        refine AR.op rfl (aop_call1L rfl rfl (lend_view _) (by simp) (join_ok W0 l.reverse (by simpa using hl)) (by simp)) ?_
        refine AR.op rfl (aop_move (.inl rfl) rfl) ?_
        refine AR.op rfl ((aop_eql64 rfl rfl rfl).tt (Bv.joinB_reverse l)) ?_
        refine (show AR _ _ _ _ [(0, _), (1, _), (2, _), (8, _), (10, _), (11, _), (37, _), (47, _), (48, _), (49, _), (50, _), (51, _), (52, _), (53, _), (54, _), (55, _)] _ _ from ?_)
        refine AR.op rfl (aop_pick rfl rfl rfl) ?_
        refine AR.op rfl (aop_move (.inl rfl) rfl) ?_
        refine AR.op rfl (aop_move (.inl rfl) rfl) ?_
        refine (show AR _ _ _ _ [(0, _), (1, _), (2, _), (8, _), (10, _), (11, _), (37, _), (47, _), (48, _), (49, _), (50, _), (51, _), (52, _), (53, _), (54, _), (55, _), (56, _), (57, _), (58, _)] _ _ from ?_)
        refine AR.op rfl (aop_move (.inl rfl) rfl) ?_
        refine AR.op rfl (aop_call1 rfl rfl (by simp) (sub_ok W0 _ _)) ?_
        refine AR.op rfl (aop_move (.inl rfl) rfl) ?_
        refine (show AR _ _ _ _ [(0, _), (1, _), (2, _), (8, _), (10, _), (11, _), (37, _), (47, _), (48, _), (49, _), (50, _), (51, _), (52, _), (53, _), (54, _), (55, _), (56, _), (57, _), (58, _), (59, _), (60, _), (61, _)] _ _ from ?_)
        refine AR.op rfl (aop_move (.inl rfl) rfl) ?_
        refine AR.op rfl (aop_call1 rfl rfl (by simp) (rsub_ok W0 a b)) ?_
        refine AR.op rfl ((aop_eqb rfl rfl rfl Tryd.underlying4).conv (by rw [beq_self_eq_true])) ?_
        refine (show AR _ _ _ _ [(0, _), (1, _), (2, _), (8, _), (10, _), (11, _), (37, _), (47, _), (48, _), (49, _), (50, _), (51, _), (52, _), (53, _), (54, _), (55, _), (56, _), (57, _), (58, _), (59, _), (60, _), (61, _), (62, _), (63, _), (64, _)] _ _ from ?_)
        refine AR.op rfl (aop_pick rfl rfl rfl) ?_
        refine AR.op rfl (aop_move (.inl rfl) rfl) ?_
        refine AR.op rfl (aop_move (.inl rfl) rfl) ?_
        refine (show AR _ _ _ _ [(0, _), (1, _), (2, _), (8, _), (10, _), (11, _), (37, _), (47, _), (48, _), (49, _), (50, _), (51, _), (52, _), (53, _), (54, _), (55, _), (56, _), (57, _), (58, _), (59, _), (60, _), (61, _), (62, _), (63, _), (64, _), (65, _), (66, _), (67, _)] _ _ from ?_)
        refine AR.op rfl (aop_move (.inl rfl) rfl) ?_
        refine AR.op rfl (aop_call1 rfl rfl (by simp) (sub_ok W0 _ _)) ?_
        refine AR.op rfl (aop_move (.inl rfl) rfl) ?_
        refine (show AR _ _ _ _ [(0, _), (1, _), (2, _), (8, _), (10, _), (11, _), (37, _), (47, _), (48, _), (49, _), (50, _), (51, _), (52, _), (53, _), (54, _), (55, _), (56, _), (57, _), (58, _), (59, _), (60, _), (61, _), (62, _), (63, _), (64, _), (65, _), (66, _), (67, _), (68, _), (69, _), (70, _)] _ _ from ?_)
        refine AR.op rfl (aop_move (.inl rfl) rfl) ?_
        refine AR.op rfl (aop_buildSlice rfl (xo := [.tmp 70, .tmp 71]) rfl rfl rfl (by simp [AV.solid]) (by simp [AV.flat]) el22 ze22 (by decide)) ?_
        refine AR.op rfl (aop_call1w rfl rfl rfl (by simp) (join_ok W0 [a, b] (by simp))) ?_
        refine (show AR _ _ _ _ [(0, _), (1, _), (2, _), (8, _), (10, _), (11, _), (37, _), (47, _), (48, _), (49, _), (50, _), (51, _), (52, _), (53, _), (54, _), (55, _), (56, _), (57, _), (58, _), (59, _), (60, _), (61, _), (62, _), (63, _), (64, _), (65, _), (66, _), (67, _), (68, _), (69, _), (70, _), (71, _), (72, _), (73, _)] _ _ from ?_)
        refine AR.op rfl (aop_move (.inl rfl) rfl) ?_
        refine AR.op rfl (aop_eql64 rfl rfl rfl) ?_
        refine AR.op rfl ((aop_eqb rfl rfl rfl Tryd.underlying4).conv (by rw [decide_eq_decide.2 (Bv.sub_two a b), beq_self_eq_true])) ?_
        refine (show AR _ _ _ _ [(0, _), (1, _), (2, _), (8, _), (10, _), (11, _), (37, _), (47, _), (48, _), (49, _), (50, _), (51, _), (52, _), (53, _), (54, _), (55, _), (56, _), (57, _), (58, _), (59, _), (60, _), (61, _), (62, _), (63, _), (64, _), (65, _), (66, _), (67, _), (68, _), (69, _), (70, _), (71, _), (72, _), (73, _), (74, _), (75, _), (76, _)] _ _ from ?_)
        refine AR.op rfl (aop_pick rfl rfl rfl) ?_
        refine AR.op rfl (aop_move (.inr rfl) rfl) ?_
        refine AR.nil ?_
        refine hK21 _ (AWP.weak (Weak.kp (fr' := [(0, _), (1, _), (2, _), (6, _), (8, _), (10, _), (11, _), (37, _)]) ⟨rfl, rfl, rfl, rfl, rfl, rfl, rfl, rfl, trivial⟩) ?_)
        clear hK21 K21
        refine awp_ret ?_
        refine ⟨.inr rfl, _, rfl, ?_⟩
        rfl

end Bits
