/- What each function of the bits law does, walked by the abstract rules, the last law. -/
import Derived.Test.YtcfogckbncfpnaaDoorB3
import Derived.Test.YtcfogckbncfpnaaDoorBvPop
import Derived.Test.YtcfogckbncfpnaaDoorRows
import Derived.KernelRfl
open Go Go.Av Go.Proofs
namespace Bits


theorem back_ok (W0 : World) (hT : Tab W0) (s : BitVec 64) (i : Int) : Fun1 Tryd.prog W0 4 [u64 s, i64 i] (bl true) := by
  refine fun1_of_awp Tryd.func4 rfl (by kernel_rfl) Tryd.ntmps4 (by simp) (by simp) ?_
  have h64 := Bv.list_length_le s
  refine awp_seqK fun K1 hK1 => ?_
  refine awp_reg rfl ?_
  refine AR.op rfl (aop_move (.inr rfl) rfl) ?_
  refine AR.nil ?_
  refine hK1 _ (AWP.weak (Weak.kp (fr' := [(0, _), (1, _), (4, _)]) ⟨rfl, rfl, rfl, trivial⟩) ?_)
  clear hK1 K1
  refine awp_seqK fun K2 hK2 => ?_
  refine awp_reg rfl ?_
  refine AR.op rfl (aop_call1 rfl rfl (by simp) (awake_ok W0 hT)) ?_
  refine AR.op rfl (aop_move (.inr rfl) rfl) ?_
  refine AR.nil ?_
  refine hK2 _ (AWP.weak (Weak.kp (fr' := [(0, _), (1, _), (4, _), (5, _)]) ⟨rfl, rfl, rfl, rfl, trivial⟩) ?_)
  clear hK2 K2
  refine awp_seqK fun K3 hK3 => ?_
  refine awp_seqK fun K4 hK4 => ?_
  refine awp_reg rfl ?_
  refine AR.op rfl (aop_move (.inl rfl) rfl) ?_
  refine AR.op rfl (aop_not rfl rfl) ?_
  refine AR.nil ?_
  refine hK4 _ (AWP.weak (Weak.kp (fr' := [(0, _), (1, _), (4, _), (5, _), (13, _)]) ⟨rfl, rfl, rfl, rfl, rfl, trivial⟩) ?_)
  clear hK4 K4
  refine awp_cond_f rfl ?_
  refine awp_skip ?_
  refine hK3 _ ?_
  clear hK3 K3
  refine awp_seqK fun K5 hK5 => ?_
  refine awp_reg rfl ?_
  refine AR.op rfl (aop_move (.inl rfl) rfl) ?_
  refine AR.op rfl (aop_call1 rfl rfl (by simp) (list_ok W0 hT s)) ?_
  refine AR.op rfl (aop_move (.inr rfl) rfl) ?_
  refine AR.nil ?_
  refine hK5 _ (AWP.weak (Weak.kp (fr' := [(0, _), (1, _), (4, _), (5, _), (6, _), (13, _)]) ⟨rfl, rfl, rfl, rfl, rfl, rfl, trivial⟩) ?_)
  clear hK5 K5
  refine awp_seqK fun K6 hK6 => ?_
  refine awp_reg rfl ?_
  refine AR.op rfl (aop_move (.inl rfl) rfl) ?_
  refine AR.op rfl (aop_call1 rfl rfl (by simp) (of_list_ok W0 s)) ?_
  refine AR.op rfl (aop_move (.inl rfl) rfl) ?_
  refine (show AR _ _ _ _ [(0, _), (1, _), (4, _), (5, _), (6, _), (13, _), (17, _), (18, _), (16, _)] _ _ from ?_)
  refine AR.op rfl (aop_extract rfl rfl rfl) ?_
  refine AR.op rfl (aop_extract rfl rfl rfl) ?_
  refine AR.op rfl (aop_move (.inr rfl) rfl) ?_
  refine (show AR _ _ _ _ [(0, _), (1, _), (4, _), (5, _), (6, _), (13, _), (17, _), (18, _), (16, _), (19, _), (20, _), (7, _)] _ _ from ?_)
  refine AR.op rfl (aop_move (.inr rfl) rfl) ?_
  refine AR.nil ?_
  refine hK6 _ (AWP.weak (Weak.kp (fr' := [(0, _), (1, _), (4, _), (5, _), (6, _), (7, _), (8, _), (13, _)]) ⟨rfl, rfl, rfl, rfl, rfl, rfl, rfl, rfl, trivial⟩) ?_)
  clear hK6 K6
  refine awp_seqK fun K7 hK7 => ?_
  refine awp_seqK fun K8 hK8 => ?_
  refine awp_reg rfl ?_
  refine AR.op rfl (aop_move (.inl rfl) rfl) ?_
  refine AR.op rfl ((aop_neq rfl rfl rfl).ff (not_not_intro rfl)) ?_
  refine AR.op rfl (aop_move (.inl rfl) rfl) ?_
  refine (show AR _ _ _ _ [(0, _), (1, _), (4, _), (5, _), (6, _), (7, _), (8, _), (13, _), (21, _), (22, _), (23, _)] _ _ from ?_)
  refine AR.op rfl (aop_move (.inl rfl) rfl) ?_
  refine AR.op rfl (aop_move (.inl rfl) rfl) ?_
  refine AR.op rfl ((aop_neq64 rfl rfl rfl).ff (not_not_intro rfl)) ?_
  refine (show AR _ _ _ _ [(0, _), (1, _), (4, _), (5, _), (6, _), (7, _), (8, _), (13, _), (21, _), (22, _), (23, _), (24, _), (25, _), (26, _)] _ _ from ?_)
  refine AR.op rfl (aop_pick rfl rfl rfl) ?_
  refine AR.op rfl (aop_move (.inl rfl) rfl) ?_
  refine AR.op rfl (aop_move (.inl rfl) rfl) ?_
  refine (show AR _ _ _ _ [(0, _), (1, _), (4, _), (5, _), (6, _), (7, _), (8, _), (13, _), (21, _), (22, _), (23, _), (24, _), (25, _), (26, _), (27, _), (28, _), (29, _)] _ _ from ?_)
  refine AR.op rfl ((aop_len rfl rfl rfl el29).conv (by rw [List.length_map])) ?_
  refine AR.op rfl (aop_move (.inl rfl) rfl) ?_
  refine AR.op rfl (aop_call1 rfl rfl (by simp) (count_ok W0 s)) ?_
  refine (show AR _ _ _ _ [(0, _), (1, _), (4, _), (5, _), (6, _), (7, _), (8, _), (13, _), (21, _), (22, _), (23, _), (24, _), (25, _), (26, _), (27, _), (28, _), (29, _), (30, _), (31, _), (32, _)] _ _ from ?_)
  refine AR.op rfl ((aop_neq rfl rfl rfl).ff (not_not_intro rfl)) ?_
  refine AR.op rfl (aop_pick rfl rfl rfl) ?_
  refine AR.nil ?_
  refine hK8 _ (AWP.weak (Weak.kp (fr' := [(0, _), (1, _), (4, _), (5, _), (6, _), (7, _), (8, _), (13, _), (34, _)]) ⟨rfl, rfl, rfl, rfl, rfl, rfl, rfl, rfl, rfl, trivial⟩) ?_)
  clear hK8 K8
  refine awp_cond_f rfl ?_
  refine awp_skip ?_
  refine hK7 _ ?_
  clear hK7 K7
  refine awp_seqK fun K9 hK9 => ?_
  refine awp_reg rfl ?_
  refine AR.op rfl (aop_move (.inr rfl) rfl) ?_
  refine AR.nil ?_
  refine hK9 _ (AWP.weak (Weak.kp (fr' := [(0, _), (1, _), (4, _), (5, _), (6, _), (7, _), (8, _), (9, _), (13, _), (34, _)]) ⟨rfl, rfl, rfl, rfl, rfl, rfl, rfl, rfl, rfl, rfl, trivial⟩) ?_)
  clear hK9 K9
  refine awp_seqK fun K10 hK10 => ?_
  refine awp_seqK fun K11 hK11 => ?_
  refine awp_reg rfl ?_
  refine AR.op rfl (aop_move (.inr rfl) rfl) ?_
  refine AR.nil ?_
  refine hK11 _ (AWP.weak (Weak.kp (fr' := [(0, _), (1, _), (4, _), (5, _), (6, _), (7, _), (8, _), (9, _), (10, _), (13, _), (34, _)]) ⟨rfl, rfl, rfl, rfl, rfl, rfl, rfl, rfl, rfl, rfl, rfl, trivial⟩) ?_)
  clear hK11 K11
  refine awp_block ?_
  refine awp_loopS (fun (k : Nat) => ⟨[(0, u64 s), (1, i64 i), (6, ints (Bv.list s)), (9, bl (Bv.seen s i k)), (10, i64 k)], .empty⟩) (fun (k : Nat) => k ≤ (Bv.list s).length) (fun (k : Nat) => (Bv.list s).length - k) (0) (by simp) (Weak.keep ⟨rfl, rfl, rfl, rfl, rfl, trivial⟩) ?_
  intro k hk
  refine awp_seqK fun K12 hK12 => ?_
  refine awp_seqK fun K13 hK13 => ?_
  refine awp_reg rfl ?_
  refine AR.op rfl (aop_move (.inl rfl) rfl) ?_
  refine AR.op rfl (aop_move (.inl rfl) rfl) ?_
  refine AR.op rfl ((aop_len rfl rfl rfl el29).conv (by rw [List.length_map])) ?_
  refine (show AR _ _ _ _ [(0, _), (1, _), (6, _), (9, _), (10, _), (35, _), (36, _), (37, _)] _ _ from ?_)
  refine AR.op rfl (aop_lss rfl rfl rfl) ?_
  refine AR.nil ?_
  refine hK13 _ (AWP.weak (Weak.kp (fr' := [(0, _), (1, _), (6, _), (9, _), (10, _), (38, _)]) ⟨rfl, rfl, rfl, rfl, rfl, rfl, trivial⟩) ?_)
  clear hK13 K13
  refine awp_cond rfl (fun h => ?_) (fun h => ?_)
  · have hlt : k < (Bv.list s).length := by have := of_decide_eq_true h; omega
    refine awp_skip ?_
    refine hK12 _ ?_
    clear hK12 K12
    refine awp_seqK fun K14 hK14 => ?_
    refine awp_block ?_
    refine awp_seqK fun K15 hK15 => ?_
    refine awp_seqK fun K16 hK16 => ?_
    rcases Nat.eq_zero_or_pos k with hk0 | hk0
    · skip
      refine awp_drw (by kernel_rfl) (by kernel_rfl) rfl ?_
      refine ARQ.op rfl (aop_move (.inl rfl) rfl) ?_
      refine ARQ.op rfl ((aop_gtr rfl rfl rfl).ff (by omega)) ?_
      refine ARQ.op rfl (aop_move (.inl rfl) rfl) ?_
      refine (show ARQ _ _ _ _ _ [(0, _), (1, _), (6, _), (9, _), (10, _), (38, _), (41, _), (42, _), (43, _)] _ from ?_)
      refine ARQ.skip rfl ?_
      refine ARQ.skip rfl ?_
      refine ARQ.skip rfl ?_
      refine (show ARQ _ _ _ _ _ [(0, _), (1, _), (6, _), (9, _), (10, _), (38, _), (41, _), (42, _), (43, _), (44, _), (45, _), (46, _)] _ from ?_)
      refine ARQ.skip rfl ?_
      refine ARQ.skip rfl ?_
      refine ARQ.skip rfl ?_
      refine (show ARQ _ _ _ _ _ [(0, _), (1, _), (6, _), (9, _), (10, _), (38, _), (41, _), (42, _), (43, _), (44, _), (45, _), (46, _), (47, _), (48, _), (49, _)] _ from ?_)
      refine ARQ.skip rfl ?_
      refine ARQ.skip rfl ?_
      refine ARQ.skip rfl ?_
      refine (show ARQ _ _ _ _ _ [(0, _), (1, _), (6, _), (9, _), (10, _), (38, _), (41, _), (42, _), (43, _), (44, _), (45, _), (46, _), (47, _), (48, _), (49, _), (50, _), (51, _), (52, _)] _ from ?_)
      refine ARQ.skip rfl ?_
      refine ARQ.op rfl (aop_pick rfl rfl rfl) ?_
      refine ARQ.op rfl (aop_move (.inl rfl) rfl) ?_
      refine (show ARQ _ _ _ _ _ [(0, _), (1, _), (6, _), (9, _), (10, _), (38, _), (41, _), (42, _), (43, _), (44, _), (45, _), (46, _), (47, _), (48, _), (49, _), (50, _), (51, _), (52, _), (53, _), (54, _), (55, _)] _ from ?_)
      refine ARQ.op rfl (aop_move (.inl rfl) rfl) ?_
      refine ARQ.op rfl (aop_move (.inl rfl) rfl) ?_
      refine ARQ.op rfl (aop_move (.inl rfl) rfl) ?_
      refine (show ARQ _ _ _ _ _ [(0, _), (1, _), (6, _), (9, _), (10, _), (38, _), (41, _), (42, _), (43, _), (44, _), (45, _), (46, _), (47, _), (48, _), (49, _), (50, _), (51, _), (52, _), (53, _), (54, _), (55, _), (56, _), (57, _), (58, _)] _ from ?_)
      refine ARQ.op rfl (aop_index_sl rfl rfl (.inl rfl) rfl el29 (rfl) (get_i64l _ hlt) (rfl)) ?_
      first | refine ARQ.op rfl (aop_load_pp rfl rfl sz3 (rfl)) ?_ | refine ARQ.op rfl (aop_load_ref rfl rfl rfl (rfl) sz3 (rfl)) ?_
      refine ARQ.op rfl ((aop_call1 rfl rfl (by simp) (has2_ok W0 _ _)).conv (by rw [Bv.has_at hlt])) ?_
      refine (show ARQ _ _ _ _ _ [(0, _), (1, _), (6, _), (9, _), (10, _), (38, _), (41, _), (42, _), (43, _), (44, _), (45, _), (46, _), (47, _), (48, _), (49, _), (50, _), (51, _), (52, _), (53, _), (54, _), (55, _), (56, _), (57, _), (58, _), (59, _), (60, _), (61, _)] _ from ?_)
      refine ARQ.op rfl (aop_not rfl rfl) ?_
      refine ARQ.op rfl (aop_pick rfl rfl rfl) ?_
      refine ARQ.nil ?_
      refine hK16 _ (AWP.weak (Weak.kp (fr' := [(0, _), (1, _), (6, _), (9, _), (10, _), (38, _), (63, _)]) ⟨rfl, rfl, rfl, rfl, rfl, rfl, rfl, trivial⟩) ?_)
      clear hK16 K16
      refine awp_cond_f rfl ?_
      refine awp_skip ?_
      refine hK15 _ ?_
      clear hK15 K15
      cases hb : Bv.seen s i k
      · skip
        refine awp_reg rfl ?_
        refine AR.op rfl (aop_move (.inl rfl) rfl) ?_
        refine AR.op rfl (aop_move (.inl rfl) rfl) ?_
        first | refine AR.op rfl (aop_move (.inl rfl) rfl) ?_ | refine AR.skip rfl ?_
        refine (show AR _ _ _ _ [(0, _), (1, _), (6, _), (9, _), (10, _), (38, _), (63, _), (64, _), (65, _), (66, _)] _ _ from ?_)
        first | refine AR.op rfl (aop_move (.inl rfl) rfl) ?_ | refine AR.skip rfl ?_
        first | refine AR.op rfl (aop_index_sl rfl rfl (.inl rfl) rfl el29 (rfl) (get_i64l _ hlt) (rfl)) ?_ | refine AR.skip rfl ?_
        first | refine AR.op rfl (aop_load_pp rfl rfl sz3 (rfl)) ?_ | refine AR.op rfl (aop_load_ref rfl rfl rfl (rfl) sz3 (rfl)) ?_ | refine AR.skip rfl ?_
        refine (show AR _ _ _ _ [(0, _), (1, _), (6, _), (9, _), (10, _), (38, _), (63, _), (64, _), (65, _), (66, _), (67, _), (68, _), (69, _)] _ _ from ?_)
        first | refine AR.op rfl (aop_move (.inl rfl) rfl) ?_ | refine AR.skip rfl ?_
        first | refine AR.op rfl ((aop_eql rfl rfl rfl).conv (by rw [Bv.seen_next hlt hb])) ?_ | refine AR.skip rfl ?_
        refine AR.op rfl (aop_pick rfl rfl rfl) ?_
        refine (show AR _ _ _ _ [(0, _), (1, _), (6, _), (9, _), (10, _), (38, _), (63, _), (64, _), (65, _), (66, _), (67, _), (68, _), (69, _), (70, _), (71, _), (72, _)] _ _ from ?_)
        refine AR.op rfl (aop_move (.inr rfl) rfl) ?_
        refine AR.nil ?_
        refine hK14 _ (AWP.weak (Weak.kp (fr' := [(0, _), (1, _), (6, _), (9, _), (10, _), (38, _), (63, _)]) ⟨rfl, rfl, rfl, rfl, rfl, rfl, rfl, trivial⟩) ?_)
        clear hK14 K14
        refine awp_reg rfl ?_
        refine AR.op rfl (aop_move (.inl rfl) rfl) ?_
        refine AR.op rfl (aop_add rfl rfl rfl (i64_wrap (by omega) (by omega))) ?_
        refine AR.op rfl (aop_move (.inr rfl) rfl) ?_
        refine AR.nil ?_
        refine ⟨k + 1, hlt, by omega, Weak.keep ⟨rfl, rfl, rfl, rfl, rfl, trivial⟩⟩
      · skip
        refine awp_reg rfl ?_
        refine AR.op rfl (aop_move (.inl rfl) rfl) ?_
        refine AR.op rfl (aop_move (.inl rfl) rfl) ?_
        first | refine AR.op rfl (aop_move (.inl rfl) rfl) ?_ | refine AR.skip rfl ?_
        refine (show AR _ _ _ _ [(0, _), (1, _), (6, _), (9, _), (10, _), (38, _), (63, _), (64, _), (65, _), (66, _)] _ _ from ?_)
        first | refine AR.op rfl (aop_move (.inl rfl) rfl) ?_ | refine AR.skip rfl ?_
        first | refine AR.op rfl (aop_index_sl rfl rfl (.inl rfl) rfl el29 (rfl) (get_i64l _ hlt) (rfl)) ?_ | refine AR.skip rfl ?_
        first | refine AR.op rfl (aop_load_pp rfl rfl sz3 (rfl)) ?_ | refine AR.op rfl (aop_load_ref rfl rfl rfl (rfl) sz3 (rfl)) ?_ | refine AR.skip rfl ?_
        refine (show AR _ _ _ _ [(0, _), (1, _), (6, _), (9, _), (10, _), (38, _), (63, _), (64, _), (65, _), (66, _), (67, _), (68, _), (69, _)] _ _ from ?_)
        first | refine AR.op rfl (aop_move (.inl rfl) rfl) ?_ | refine AR.skip rfl ?_
        first | refine AR.op rfl (aop_eql rfl rfl rfl) ?_ | refine AR.skip rfl ?_
        refine AR.op rfl (aop_pick rfl rfl rfl) ?_
        refine (show AR _ _ _ _ [(0, _), (1, _), (6, _), (9, _), (10, _), (38, _), (63, _), (64, _), (65, _), (66, _), (67, _), (68, _), (69, _), (70, _), (71, _), (72, _)] _ _ from ?_)
        refine AR.op rfl (aop_move (.inr rfl) rfl) ?_
        refine AR.nil ?_
        refine hK14 _ (AWP.weak (Weak.kp (fr' := [(0, _), (1, _), (6, _), (9, _), (10, _), (38, _), (63, _)]) ⟨rfl, rfl, rfl, rfl, rfl, rfl, rfl, trivial⟩) ?_)
        clear hK14 K14
        refine awp_reg rfl ?_
        refine AR.op rfl (aop_move (.inl rfl) rfl) ?_
        refine AR.op rfl (aop_add rfl rfl rfl (i64_wrap (by omega) (by omega))) ?_
        refine AR.op rfl (aop_move (.inr rfl) rfl) ?_
        refine AR.nil ?_
        refine ⟨k + 1, hlt, by omega, Weak.keep ⟨rfl, rfl, rfl, ?_, rfl, trivial⟩⟩
        rw [Bv.seen_stay hb]; rfl
    · skip
      refine awp_drw (by kernel_rfl) (by kernel_rfl) rfl ?_
      refine ARQ.op rfl (aop_move (.inl rfl) rfl) ?_
      refine ARQ.op rfl ((aop_gtr rfl rfl rfl).tt (by omega)) ?_
      refine ARQ.op rfl (aop_move (.inl rfl) rfl) ?_
      refine (show ARQ _ _ _ _ _ [(0, _), (1, _), (6, _), (9, _), (10, _), (38, _), (41, _), (42, _), (43, _)] _ from ?_)
      refine ARQ.op rfl (aop_move (.inl rfl) rfl) ?_
      refine ARQ.op rfl (aop_move (.inl rfl) rfl) ?_
      refine ARQ.op rfl (aop_index_sl rfl rfl (.inl rfl) rfl el29 (rfl) (get_i64l _ hlt) (rfl)) ?_
      refine (show ARQ _ _ _ _ _ [(0, _), (1, _), (6, _), (9, _), (10, _), (38, _), (41, _), (42, _), (43, _), (44, _), (45, _), (46, _)] _ from ?_)
      first | refine ARQ.op rfl (aop_load_pp rfl rfl sz3 (rfl)) ?_ | refine ARQ.op rfl (aop_load_ref rfl rfl rfl (rfl) sz3 (rfl)) ?_
      refine ARQ.op rfl (aop_move (.inl rfl) rfl) ?_
      refine ARQ.op rfl (aop_move (.inl rfl) rfl) ?_
      refine (show ARQ _ _ _ _ _ [(0, _), (1, _), (6, _), (9, _), (10, _), (38, _), (41, _), (42, _), (43, _), (44, _), (45, _), (46, _), (47, _), (48, _), (49, _)] _ from ?_)
      refine ARQ.op rfl (aop_sub rfl rfl rfl (i64_wrap (by omega) (by omega))) ?_
      refine ARQ.op rfl (aop_index_sl rfl rfl (.inl rfl) rfl el29 (by omega) (get_i64l _ (k := k - 1) (by omega)) (rfl)) ?_
      first | refine ARQ.op rfl (aop_load_pp rfl rfl sz3 (rfl)) ?_ | refine ARQ.op rfl (aop_load_ref rfl rfl rfl (rfl) sz3 (rfl)) ?_
      refine (show ARQ _ _ _ _ _ [(0, _), (1, _), (6, _), (9, _), (10, _), (38, _), (41, _), (42, _), (43, _), (44, _), (45, _), (46, _), (47, _), (48, _), (49, _), (50, _), (51, _), (52, _)] _ from ?_)
      refine ARQ.op rfl ((aop_leq rfl rfl rfl).ff (Bv.rise hlt hk0)) ?_
      refine ARQ.op rfl (aop_pick rfl rfl rfl) ?_
      refine ARQ.op rfl (aop_move (.inl rfl) rfl) ?_
      refine (show ARQ _ _ _ _ _ [(0, _), (1, _), (6, _), (9, _), (10, _), (38, _), (41, _), (42, _), (43, _), (44, _), (45, _), (46, _), (47, _), (48, _), (49, _), (50, _), (51, _), (52, _), (53, _), (54, _), (55, _)] _ from ?_)
      refine ARQ.op rfl (aop_move (.inl rfl) rfl) ?_
      refine ARQ.op rfl (aop_move (.inl rfl) rfl) ?_
      refine ARQ.op rfl (aop_move (.inl rfl) rfl) ?_
      refine (show ARQ _ _ _ _ _ [(0, _), (1, _), (6, _), (9, _), (10, _), (38, _), (41, _), (42, _), (43, _), (44, _), (45, _), (46, _), (47, _), (48, _), (49, _), (50, _), (51, _), (52, _), (53, _), (54, _), (55, _), (56, _), (57, _), (58, _)] _ from ?_)
      refine ARQ.op rfl (aop_index_sl rfl rfl (.inl rfl) rfl el29 (rfl) (get_i64l _ hlt) (rfl)) ?_
      first | refine ARQ.op rfl (aop_load_pp rfl rfl sz3 (rfl)) ?_ | refine ARQ.op rfl (aop_load_ref rfl rfl rfl (rfl) sz3 (rfl)) ?_
      refine ARQ.op rfl ((aop_call1 rfl rfl (by simp) (has2_ok W0 _ _)).conv (by rw [Bv.has_at hlt])) ?_
      refine (show ARQ _ _ _ _ _ [(0, _), (1, _), (6, _), (9, _), (10, _), (38, _), (41, _), (42, _), (43, _), (44, _), (45, _), (46, _), (47, _), (48, _), (49, _), (50, _), (51, _), (52, _), (53, _), (54, _), (55, _), (56, _), (57, _), (58, _), (59, _), (60, _), (61, _)] _ from ?_)
      refine ARQ.op rfl (aop_not rfl rfl) ?_
      refine ARQ.op rfl (aop_pick rfl rfl rfl) ?_
      refine ARQ.nil ?_
      refine hK16 _ (AWP.weak (Weak.kp (fr' := [(0, _), (1, _), (6, _), (9, _), (10, _), (38, _), (63, _)]) ⟨rfl, rfl, rfl, rfl, rfl, rfl, rfl, trivial⟩) ?_)
      clear hK16 K16
      refine awp_cond_f rfl ?_
      refine awp_skip ?_
      refine hK15 _ ?_
      clear hK15 K15
      cases hb : Bv.seen s i k
      · skip
        refine awp_reg rfl ?_
        refine AR.op rfl (aop_move (.inl rfl) rfl) ?_
        refine AR.op rfl (aop_move (.inl rfl) rfl) ?_
        first | refine AR.op rfl (aop_move (.inl rfl) rfl) ?_ | refine AR.skip rfl ?_
        refine (show AR _ _ _ _ [(0, _), (1, _), (6, _), (9, _), (10, _), (38, _), (63, _), (64, _), (65, _), (66, _)] _ _ from ?_)
        first | refine AR.op rfl (aop_move (.inl rfl) rfl) ?_ | refine AR.skip rfl ?_
        first | refine AR.op rfl (aop_index_sl rfl rfl (.inl rfl) rfl el29 (rfl) (get_i64l _ hlt) (rfl)) ?_ | refine AR.skip rfl ?_
        first | refine AR.op rfl (aop_load_pp rfl rfl sz3 (rfl)) ?_ | refine AR.op rfl (aop_load_ref rfl rfl rfl (rfl) sz3 (rfl)) ?_ | refine AR.skip rfl ?_
        refine (show AR _ _ _ _ [(0, _), (1, _), (6, _), (9, _), (10, _), (38, _), (63, _), (64, _), (65, _), (66, _), (67, _), (68, _), (69, _)] _ _ from ?_)
        first | refine AR.op rfl (aop_move (.inl rfl) rfl) ?_ | refine AR.skip rfl ?_
        first | refine AR.op rfl ((aop_eql rfl rfl rfl).conv (by rw [Bv.seen_next hlt hb])) ?_ | refine AR.skip rfl ?_
        refine AR.op rfl (aop_pick rfl rfl rfl) ?_
        refine (show AR _ _ _ _ [(0, _), (1, _), (6, _), (9, _), (10, _), (38, _), (63, _), (64, _), (65, _), (66, _), (67, _), (68, _), (69, _), (70, _), (71, _), (72, _)] _ _ from ?_)
        refine AR.op rfl (aop_move (.inr rfl) rfl) ?_
        refine AR.nil ?_
        refine hK14 _ (AWP.weak (Weak.kp (fr' := [(0, _), (1, _), (6, _), (9, _), (10, _), (38, _), (63, _)]) ⟨rfl, rfl, rfl, rfl, rfl, rfl, rfl, trivial⟩) ?_)
        clear hK14 K14
        refine awp_reg rfl ?_
        refine AR.op rfl (aop_move (.inl rfl) rfl) ?_
        refine AR.op rfl (aop_add rfl rfl rfl (i64_wrap (by omega) (by omega))) ?_
        refine AR.op rfl (aop_move (.inr rfl) rfl) ?_
        refine AR.nil ?_
        refine ⟨k + 1, hlt, by omega, Weak.keep ⟨rfl, rfl, rfl, rfl, rfl, trivial⟩⟩
      · skip
        refine awp_reg rfl ?_
        refine AR.op rfl (aop_move (.inl rfl) rfl) ?_
        refine AR.op rfl (aop_move (.inl rfl) rfl) ?_
        first | refine AR.op rfl (aop_move (.inl rfl) rfl) ?_ | refine AR.skip rfl ?_
        refine (show AR _ _ _ _ [(0, _), (1, _), (6, _), (9, _), (10, _), (38, _), (63, _), (64, _), (65, _), (66, _)] _ _ from ?_)
        first | refine AR.op rfl (aop_move (.inl rfl) rfl) ?_ | refine AR.skip rfl ?_
        first | refine AR.op rfl (aop_index_sl rfl rfl (.inl rfl) rfl el29 (rfl) (get_i64l _ hlt) (rfl)) ?_ | refine AR.skip rfl ?_
        first | refine AR.op rfl (aop_load_pp rfl rfl sz3 (rfl)) ?_ | refine AR.op rfl (aop_load_ref rfl rfl rfl (rfl) sz3 (rfl)) ?_ | refine AR.skip rfl ?_
        refine (show AR _ _ _ _ [(0, _), (1, _), (6, _), (9, _), (10, _), (38, _), (63, _), (64, _), (65, _), (66, _), (67, _), (68, _), (69, _)] _ _ from ?_)
        first | refine AR.op rfl (aop_move (.inl rfl) rfl) ?_ | refine AR.skip rfl ?_
        first | refine AR.op rfl (aop_eql rfl rfl rfl) ?_ | refine AR.skip rfl ?_
        refine AR.op rfl (aop_pick rfl rfl rfl) ?_
        refine (show AR _ _ _ _ [(0, _), (1, _), (6, _), (9, _), (10, _), (38, _), (63, _), (64, _), (65, _), (66, _), (67, _), (68, _), (69, _), (70, _), (71, _), (72, _)] _ _ from ?_)
        refine AR.op rfl (aop_move (.inr rfl) rfl) ?_
        refine AR.nil ?_
        refine hK14 _ (AWP.weak (Weak.kp (fr' := [(0, _), (1, _), (6, _), (9, _), (10, _), (38, _), (63, _)]) ⟨rfl, rfl, rfl, rfl, rfl, rfl, rfl, trivial⟩) ?_)
        clear hK14 K14
        refine awp_reg rfl ?_
        refine AR.op rfl (aop_move (.inl rfl) rfl) ?_
        refine AR.op rfl (aop_add rfl rfl rfl (i64_wrap (by omega) (by omega))) ?_
        refine AR.op rfl (aop_move (.inr rfl) rfl) ?_
        refine AR.nil ?_
        refine ⟨k + 1, hlt, by omega, Weak.keep ⟨rfl, rfl, rfl, ?_, rfl, trivial⟩⟩
        rw [Bv.seen_stay hb]; rfl
  · have hge : k = (Bv.list s).length := by have := of_decide_eq_false h; omega
    subst hge
    refine awp_exit ?_
    refine hK10 _ ?_
    clear hK12 K12
    clear hK10 K10
    refine awp_seqK fun K17 hK17 => ?_
    rcases Nat.eq_zero_or_pos (Bv.list s).length with hz | hz
    · skip
      refine awp_drw (by kernel_rfl) (by kernel_rfl) rfl ?_
      refine ARQ.op rfl (aop_move (.inl rfl) rfl) ?_
      refine ARQ.op rfl (aop_move (.inl rfl) rfl) ?_
      refine ARQ.op rfl (aop_call1 rfl rfl (by simp) (has2_ok W0 _ _)) ?_
      refine (show ARQ _ _ _ _ _ [(0, _), (1, _), (6, _), (9, _), (10, _), (38, _), (73, _), (74, _), (75, _)] _ from ?_)
      refine ARQ.op rfl (aop_move (.inl rfl) rfl) ?_
      refine ARQ.op rfl ((aop_eqb rfl rfl rfl Tryd.underlying4).conv (by rw [Bv.seen_all, beq_self_eq_true])) ?_
      refine ARQ.op rfl (aop_move (.inl rfl) rfl) ?_
      refine (show ARQ _ _ _ _ _ [(0, _), (1, _), (6, _), (9, _), (10, _), (38, _), (73, _), (74, _), (75, _), (76, _), (77, _), (78, _)] _ from ?_)
      refine ARQ.op rfl (aop_move (.inl rfl) rfl) ?_
      refine ARQ.op rfl ((aop_len rfl rfl rfl el29).conv (by rw [List.length_map])) ?_
      refine ARQ.op rfl ((aop_eql rfl rfl rfl).tt (by omega)) ?_
      refine (show ARQ _ _ _ _ _ [(0, _), (1, _), (6, _), (9, _), (10, _), (38, _), (73, _), (74, _), (75, _), (76, _), (77, _), (78, _), (79, _), (80, _), (81, _)] _ from ?_)
      refine ARQ.op rfl (aop_move (.inl rfl) rfl) ?_
      refine ARQ.op rfl (aop_call1 rfl rfl (by simp) (least_ok W0 hT s)) ?_
      refine ARQ.op rfl ((aop_eql rfl rfl rfl).tt (Bv.least_nil hz)) ?_
      refine (show ARQ _ _ _ _ _ [(0, _), (1, _), (6, _), (9, _), (10, _), (38, _), (73, _), (74, _), (75, _), (76, _), (77, _), (78, _), (79, _), (80, _), (81, _), (82, _), (83, _), (84, _)] _ from ?_)
      refine ARQ.op rfl ((aop_eqb rfl rfl rfl Tryd.underlying4).conv (by rw [beq_self_eq_true])) ?_
      refine ARQ.op rfl (aop_pick rfl rfl rfl) ?_
      refine ARQ.op rfl (aop_move (.inl rfl) rfl) ?_
      refine (show ARQ _ _ _ _ _ [(0, _), (1, _), (6, _), (9, _), (10, _), (38, _), (73, _), (74, _), (75, _), (76, _), (77, _), (78, _), (79, _), (80, _), (81, _), (82, _), (83, _), (84, _), (85, _), (86, _), (87, _)] _ from ?_)
      refine ARQ.op rfl (aop_move (.inl rfl) rfl) ?_
      refine ARQ.op rfl ((aop_len rfl rfl rfl el29).conv (by rw [List.length_map])) ?_
      refine ARQ.op rfl ((aop_eql rfl rfl rfl).tt (by omega)) ?_
      refine (show ARQ _ _ _ _ _ [(0, _), (1, _), (6, _), (9, _), (10, _), (38, _), (73, _), (74, _), (75, _), (76, _), (77, _), (78, _), (79, _), (80, _), (81, _), (82, _), (83, _), (84, _), (85, _), (86, _), (87, _), (88, _), (89, _), (90, _)] _ from ?_)
      refine ARQ.op rfl (aop_move (.inl rfl) rfl) ?_
      refine ARQ.skip rfl ?_
      refine ARQ.skip rfl ?_
      refine (show ARQ _ _ _ _ _ [(0, _), (1, _), (6, _), (9, _), (10, _), (38, _), (73, _), (74, _), (75, _), (76, _), (77, _), (78, _), (79, _), (80, _), (81, _), (82, _), (83, _), (84, _), (85, _), (86, _), (87, _), (88, _), (89, _), (90, _), (91, _), (92, _), (93, _)] _ from ?_)
      refine ARQ.skip rfl ?_
      refine ARQ.skip rfl ?_
      refine ARQ.skip rfl ?_
      refine (show ARQ _ _ _ _ _ [(0, _), (1, _), (6, _), (9, _), (10, _), (38, _), (73, _), (74, _), (75, _), (76, _), (77, _), (78, _), (79, _), (80, _), (81, _), (82, _), (83, _), (84, _), (85, _), (86, _), (87, _), (88, _), (89, _), (90, _), (91, _), (92, _), (93, _), (94, _), (95, _), (96, _)] _ from ?_)
      refine ARQ.skip rfl ?_
      refine ARQ.op rfl (aop_pick rfl rfl rfl) ?_
      refine ARQ.op rfl (aop_pick rfl rfl rfl) ?_
      refine (show ARQ _ _ _ _ _ [(0, _), (1, _), (6, _), (9, _), (10, _), (38, _), (73, _), (74, _), (75, _), (76, _), (77, _), (78, _), (79, _), (80, _), (81, _), (82, _), (83, _), (84, _), (85, _), (86, _), (87, _), (88, _), (89, _), (90, _), (91, _), (92, _), (93, _), (94, _), (95, _), (96, _), (97, _), (98, _), (99, _)] _ from ?_)
      refine ARQ.op rfl (aop_move (.inr rfl) rfl) ?_
      refine ARQ.nil ?_
      refine hK17 _ (AWP.weak (Weak.kp (fr' := [(0, _), (1, _), (4, _), (6, _), (9, _), (10, _), (38, _)]) ⟨rfl, rfl, rfl, rfl, rfl, rfl, rfl, trivial⟩) ?_)
      clear hK17 K17
      refine awp_ret ?_
      refine ⟨.inr rfl, _, rfl, ?_⟩
      rfl
    · skip
      refine awp_drw (by kernel_rfl) (by kernel_rfl) rfl ?_
      refine ARQ.op rfl (aop_move (.inl rfl) rfl) ?_
      refine ARQ.op rfl (aop_move (.inl rfl) rfl) ?_
      refine ARQ.op rfl (aop_call1 rfl rfl (by simp) (has2_ok W0 _ _)) ?_
      refine (show ARQ _ _ _ _ _ [(0, _), (1, _), (6, _), (9, _), (10, _), (38, _), (73, _), (74, _), (75, _)] _ from ?_)
      refine ARQ.op rfl (aop_move (.inl rfl) rfl) ?_
      refine ARQ.op rfl ((aop_eqb rfl rfl rfl Tryd.underlying4).conv (by rw [Bv.seen_all, beq_self_eq_true])) ?_
      refine ARQ.op rfl (aop_move (.inl rfl) rfl) ?_
      refine (show ARQ _ _ _ _ _ [(0, _), (1, _), (6, _), (9, _), (10, _), (38, _), (73, _), (74, _), (75, _), (76, _), (77, _), (78, _)] _ from ?_)
      refine ARQ.op rfl (aop_move (.inl rfl) rfl) ?_
      refine ARQ.op rfl ((aop_len rfl rfl rfl el29).conv (by rw [List.length_map])) ?_
      refine ARQ.op rfl ((aop_eql rfl rfl rfl).ff (by omega)) ?_
      refine (show ARQ _ _ _ _ _ [(0, _), (1, _), (6, _), (9, _), (10, _), (38, _), (73, _), (74, _), (75, _), (76, _), (77, _), (78, _), (79, _), (80, _), (81, _)] _ from ?_)
      refine ARQ.op rfl (aop_move (.inl rfl) rfl) ?_
      refine ARQ.op rfl (aop_call1 rfl rfl (by simp) (least_ok W0 hT s)) ?_
      refine ARQ.op rfl ((aop_eql rfl rfl rfl).ff (Bv.least_pos hz)) ?_
      refine (show ARQ _ _ _ _ _ [(0, _), (1, _), (6, _), (9, _), (10, _), (38, _), (73, _), (74, _), (75, _), (76, _), (77, _), (78, _), (79, _), (80, _), (81, _), (82, _), (83, _), (84, _)] _ from ?_)
      refine ARQ.op rfl ((aop_eqb rfl rfl rfl Tryd.underlying4).conv (by rw [beq_self_eq_true])) ?_
      refine ARQ.op rfl (aop_pick rfl rfl rfl) ?_
      refine ARQ.op rfl (aop_move (.inl rfl) rfl) ?_
      refine (show ARQ _ _ _ _ _ [(0, _), (1, _), (6, _), (9, _), (10, _), (38, _), (73, _), (74, _), (75, _), (76, _), (77, _), (78, _), (79, _), (80, _), (81, _), (82, _), (83, _), (84, _), (85, _), (86, _), (87, _)] _ from ?_)
      refine ARQ.op rfl (aop_move (.inl rfl) rfl) ?_
      refine ARQ.op rfl ((aop_len rfl rfl rfl el29).conv (by rw [List.length_map])) ?_
      refine ARQ.op rfl ((aop_eql rfl rfl rfl).ff (by omega)) ?_
      refine (show ARQ _ _ _ _ _ [(0, _), (1, _), (6, _), (9, _), (10, _), (38, _), (73, _), (74, _), (75, _), (76, _), (77, _), (78, _), (79, _), (80, _), (81, _), (82, _), (83, _), (84, _), (85, _), (86, _), (87, _), (88, _), (89, _), (90, _)] _ from ?_)
      refine ARQ.op rfl (aop_move (.inl rfl) rfl) ?_
      refine ARQ.op rfl (aop_move (.inl rfl) rfl) ?_
      refine ARQ.op rfl (aop_call1 rfl rfl (by simp) (least_ok W0 hT s)) ?_
      refine (show ARQ _ _ _ _ _ [(0, _), (1, _), (6, _), (9, _), (10, _), (38, _), (73, _), (74, _), (75, _), (76, _), (77, _), (78, _), (79, _), (80, _), (81, _), (82, _), (83, _), (84, _), (85, _), (86, _), (87, _), (88, _), (89, _), (90, _), (91, _), (92, _), (93, _)] _ from ?_)
      refine ARQ.op rfl (aop_move (.inl rfl) rfl) ?_
      refine ARQ.op rfl (aop_index_sl rfl rfl (.inl rfl) rfl el29 (rfl) (get_i64l _ (k := 0) hz) (rfl)) ?_
      first | refine ARQ.op rfl (aop_load_pp rfl rfl sz3 (rfl)) ?_ | refine ARQ.op rfl (aop_load_ref rfl rfl rfl (rfl) sz3 (rfl)) ?_
      refine (show ARQ _ _ _ _ _ [(0, _), (1, _), (6, _), (9, _), (10, _), (38, _), (73, _), (74, _), (75, _), (76, _), (77, _), (78, _), (79, _), (80, _), (81, _), (82, _), (83, _), (84, _), (85, _), (86, _), (87, _), (88, _), (89, _), (90, _), (91, _), (92, _), (93, _), (94, _), (95, _), (96, _)] _ from ?_)
      refine ARQ.op rfl ((aop_eql rfl rfl rfl).tt (Bv.least_first hz)) ?_
      refine ARQ.op rfl (aop_pick rfl rfl rfl) ?_
      refine ARQ.op rfl (aop_pick rfl rfl rfl) ?_
      refine (show ARQ _ _ _ _ _ [(0, _), (1, _), (6, _), (9, _), (10, _), (38, _), (73, _), (74, _), (75, _), (76, _), (77, _), (78, _), (79, _), (80, _), (81, _), (82, _), (83, _), (84, _), (85, _), (86, _), (87, _), (88, _), (89, _), (90, _), (91, _), (92, _), (93, _), (94, _), (95, _), (96, _), (97, _), (98, _), (99, _)] _ from ?_)
      refine ARQ.op rfl (aop_move (.inr rfl) rfl) ?_
      refine ARQ.nil ?_
      refine hK17 _ (AWP.weak (Weak.kp (fr' := [(0, _), (1, _), (4, _), (6, _), (9, _), (10, _), (38, _)]) ⟨rfl, rfl, rfl, rfl, rfl, rfl, rfl, trivial⟩) ?_)
      clear hK17 K17
      refine awp_ret ?_
      refine ⟨.inr rfl, _, rfl, ?_⟩
      rfl

end Bits
