/- What each function of the bits law does, walked by the abstract rules, the laws. -/
import Derived.Test.YtcfogckbncfpnaaDoorB2
import Derived.Test.YtcfogckbncfpnaaDoorBvPop
import Derived.Test.YtcfogckbncfpnaaDoorRows
import Derived.KernelRfl
open Go Go.Av Go.Proofs
namespace Bits


theorem intsN_ok (W0 : World) (a : List Nat) (ha : a.length ≤ 9223372036854775807) : Fun1 Tryd.prog W0 19 [ints a, ints a] (bl true) := by
  have e : ints a = i64s (a.map fun (k : Nat) => (k : Int)) := by simp [ints, i64l, i64s, List.map_map]
  rw [e]
  have := ints_ok W0 (a.map fun (k : Nat) => (k : Int)) (a.map fun (k : Nat) => (k : Int)) (by simpa using ha)
  rwa [decide_eq_true rfl] at this
theorem of_list_ok (W0 : World) (s : BitVec 64) : Fun1 Tryd.prog W0 13 [ints (Bv.list s)] (.tuple [u64 s, i64 0]) := by
  have e : ints (Bv.list s) = i64s ((Bv.list s).map fun (k : Nat) => (k : Int)) := by simp [ints, i64l, i64s, List.map_map]
  rw [e]
  have := of_ok W0 ((Bv.list s).map fun (k : Nat) => (k : Int)) (by have := Bv.list_length_le s; simp; omega)
  rwa [Bv.ofS_list] at this

theorem tell_ok (W0 : World) (hT : Tab W0) (l : List Int) (s : BitVec 64) (i : Int) (hl : l.length ≤ 9223372036854775807) : Fun1 Tryd.prog W0 5 [i64s l, u64 s, i64 i] (bl true) := by
  refine fun1_of_awp Tryd.func5 rfl (by kernel_rfl) Tryd.ntmps5 (by simp) (by simp) ?_
  have h64 := Bv.list_length_le s
  refine awp_seqK fun K1 hK1 => ?_
  refine awp_reg rfl ?_
  refine AR.op rfl (aop_move (.inr rfl) rfl) ?_
  refine AR.nil ?_
  refine hK1 _ (AWP.weak (Weak.kp (fr' := [(0, _), (1, _), (2, _), (6, _)]) ⟨rfl, rfl, rfl, rfl, trivial⟩) ?_)
  clear hK1 K1
  refine awp_seqK fun K2 hK2 => ?_
  refine awp_reg rfl ?_
  refine AR.op rfl (aop_call1 rfl rfl (by simp) (awake_ok W0 hT)) ?_
  refine AR.op rfl (aop_move (.inr rfl) rfl) ?_
  refine AR.nil ?_
  refine hK2 _ (AWP.weak (Weak.kp (fr' := [(0, _), (1, _), (2, _), (6, _), (7, _)]) ⟨rfl, rfl, rfl, rfl, rfl, trivial⟩) ?_)
  clear hK2 K2
  refine awp_seqK fun K3 hK3 => ?_
  refine awp_seqK fun K4 hK4 => ?_
  refine awp_reg rfl ?_
  refine AR.op rfl (aop_move (.inl rfl) rfl) ?_
  refine AR.op rfl (aop_not rfl rfl) ?_
  refine AR.nil ?_
  refine hK4 _ (AWP.weak (Weak.kp (fr' := [(0, _), (1, _), (2, _), (6, _), (7, _), (15, _)]) ⟨rfl, rfl, rfl, rfl, rfl, rfl, trivial⟩) ?_)
  clear hK4 K4
  refine awp_cond_f rfl ?_
  refine awp_skip ?_
  refine hK3 _ ?_
  clear hK3 K3
  refine awp_seqK fun K5 hK5 => ?_
  refine awp_seqK fun K6 hK6 => ?_
  refine awp_reg rfl ?_
  refine AR.op rfl (aop_move (.inl rfl) rfl) ?_
  refine AR.op rfl ((aop_len rfl rfl rfl el29).conv (by rw [List.length_map])) ?_
  refine AR.op rfl (aop_gtr rfl rfl rfl) ?_
  refine AR.nil ?_
  refine hK6 _ (AWP.weak (Weak.kp (fr' := [(0, _), (1, _), (2, _), (6, _), (7, _), (15, _), (18, _)]) ⟨rfl, rfl, rfl, rfl, rfl, rfl, rfl, trivial⟩) ?_)
  clear hK6 K6
  refine awp_cond rfl (fun h => ?_) (fun h => ?_)
  · skip
    refine awp_seqK fun K7 hK7 => ?_
    refine awp_reg rfl ?_
    refine AR.op rfl (aop_move (.inr rfl) rfl) ?_
    refine AR.nil ?_
    refine hK7 _ (AWP.weak (Weak.kp (fr' := [(0, _), (1, _), (2, _), (6, _), (7, _), (15, _), (18, _)]) ⟨rfl, rfl, rfl, rfl, rfl, rfl, rfl, trivial⟩) ?_)
    clear hK7 K7
    refine awp_ret ?_
    refine ⟨.inr rfl, _, rfl, ?_⟩
    rfl
  · skip
    refine awp_skip ?_
    refine hK5 _ ?_
    clear hK5 K5
    refine awp_seqK fun K8 hK8 => ?_
    refine awp_reg rfl ?_
    refine AR.op rfl (aop_move (.inl rfl) rfl) ?_
    refine AR.op rfl (aop_call1 rfl rfl (by simp) (of_ok W0 l hl)) ?_
    refine AR.op rfl (aop_move (.inl rfl) rfl) ?_
    refine (show AR _ _ _ _ [(0, _), (1, _), (2, _), (6, _), (7, _), (15, _), (18, _), (20, _), (21, _), (19, _)] _ _ from ?_)
    refine AR.op rfl (aop_extract rfl rfl rfl) ?_
    refine AR.op rfl (aop_extract rfl rfl rfl) ?_
    refine AR.op rfl (aop_move (.inr rfl) rfl) ?_
    refine (show AR _ _ _ _ [(0, _), (1, _), (2, _), (6, _), (7, _), (15, _), (18, _), (20, _), (21, _), (19, _), (22, _), (23, _), (8, _)] _ _ from ?_)
    refine AR.op rfl (aop_move (.inr rfl) rfl) ?_
    refine AR.nil ?_
    refine hK8 _ (AWP.weak (Weak.kp (fr' := [(0, _), (1, _), (2, _), (6, _), (7, _), (8, _), (9, _), (15, _), (18, _)]) ⟨rfl, rfl, rfl, rfl, rfl, rfl, rfl, rfl, rfl, trivial⟩) ?_)
    clear hK8 K8
    refine awp_seqK fun K9 hK9 => ?_
    refine awp_reg rfl ?_
    refine AR.op rfl (aop_move (.inl rfl) rfl) ?_
    refine AR.op rfl (aop_call1 rfl rfl (by simp) (rof_ok W0 l hl)) ?_
    refine AR.op rfl (aop_move (.inl rfl) rfl) ?_
    refine (show AR _ _ _ _ [(0, _), (1, _), (2, _), (6, _), (7, _), (8, _), (9, _), (15, _), (18, _), (25, _), (26, _), (24, _)] _ _ from ?_)
    refine AR.op rfl (aop_extract rfl rfl rfl) ?_
    refine AR.op rfl (aop_extract rfl rfl rfl) ?_
    refine AR.op rfl (aop_move (.inr rfl) rfl) ?_
    refine (show AR _ _ _ _ [(0, _), (1, _), (2, _), (6, _), (7, _), (8, _), (9, _), (15, _), (18, _), (25, _), (26, _), (24, _), (27, _), (28, _), (10, _)] _ _ from ?_)
    refine AR.op rfl (aop_move (.inr rfl) rfl) ?_
    refine AR.nil ?_
    refine hK9 _ (AWP.weak (Weak.kp (fr' := [(0, _), (1, _), (2, _), (6, _), (7, _), (8, _), (9, _), (10, _), (11, _), (15, _), (18, _)]) ⟨rfl, rfl, rfl, rfl, rfl, rfl, rfl, rfl, rfl, rfl, rfl, trivial⟩) ?_)
    clear hK9 K9
    refine awp_seqK fun K10 hK10 => ?_
    refine awp_reg rfl ?_
    refine AR.op rfl (aop_move (.inl rfl) rfl) ?_
    refine AR.op rfl (aop_call1 rfl rfl (by simp) (rlist_ok W0 s)) ?_
    refine AR.op rfl (aop_move (.inr rfl) rfl) ?_
    refine AR.nil ?_
    refine hK10 _ (AWP.weak (Weak.kp (fr' := [(0, _), (1, _), (2, _), (6, _), (7, _), (8, _), (9, _), (10, _), (11, _), (12, _), (15, _), (18, _)]) ⟨rfl, rfl, rfl, rfl, rfl, rfl, rfl, rfl, rfl, rfl, rfl, rfl, trivial⟩) ?_)
    clear hK10 K10
    refine awp_seqK fun K11 hK11 => ?_
    refine awp_reg rfl ?_
    refine AR.op rfl (aop_move (.inl rfl) rfl) ?_
    refine AR.op rfl (aop_move (.inl rfl) rfl) ?_
    refine AR.op rfl ((aop_eql64 rfl rfl rfl).tt (rfl)) ?_
    refine (show AR _ _ _ _ [(0, _), (1, _), (2, _), (6, _), (7, _), (8, _), (9, _), (10, _), (11, _), (12, _), (15, _), (18, _), (31, _), (32, _), (33, _)] _ _ from ?_)
    refine AR.op rfl (aop_move (.inl rfl) rfl) ?_
    refine AR.op rfl (aop_move (.inl rfl) rfl) ?_
    refine AR.op rfl (aop_move (.inl rfl) rfl) ?_
    refine (show AR _ _ _ _ [(0, _), (1, _), (2, _), (6, _), (7, _), (8, _), (9, _), (10, _), (11, _), (12, _), (15, _), (18, _), (31, _), (32, _), (33, _), (34, _), (35, _), (36, _)] _ _ from ?_)
    refine AR.op rfl ((aop_eql rfl rfl rfl).tt (rfl)) ?_
    refine AR.op rfl (aop_pick rfl rfl rfl) ?_
    refine AR.op rfl (aop_move (.inl rfl) rfl) ?_
    refine (show AR _ _ _ _ [(0, _), (1, _), (2, _), (6, _), (7, _), (8, _), (9, _), (10, _), (11, _), (12, _), (15, _), (18, _), (31, _), (32, _), (33, _), (34, _), (35, _), (36, _), (37, _), (38, _), (39, _)] _ _ from ?_)
    refine AR.op rfl (aop_move (.inl rfl) rfl) ?_
    refine AR.op rfl (aop_call1 rfl rfl (by simp) (list_ok W0 hT s)) ?_
    refine AR.op rfl (aop_move (.inl rfl) rfl) ?_
    refine (show AR _ _ _ _ [(0, _), (1, _), (2, _), (6, _), (7, _), (8, _), (9, _), (10, _), (11, _), (12, _), (15, _), (18, _), (31, _), (32, _), (33, _), (34, _), (35, _), (36, _), (37, _), (38, _), (39, _), (40, _), (41, _), (42, _)] _ _ from ?_)
    refine AR.op rfl (aop_call1 rfl rfl (by simp) (intsN_ok W0 _ (by omega))) ?_
    refine AR.op rfl (aop_pick rfl rfl rfl) ?_
    refine AR.op rfl (aop_move (.inl rfl) rfl) ?_
    refine (show AR _ _ _ _ [(0, _), (1, _), (2, _), (6, _), (7, _), (8, _), (9, _), (10, _), (11, _), (12, _), (15, _), (18, _), (31, _), (32, _), (33, _), (34, _), (35, _), (36, _), (37, _), (38, _), (39, _), (40, _), (41, _), (42, _), (43, _), (44, _), (45, _)] _ _ from ?_)
    refine AR.op rfl (aop_move (.inl rfl) rfl) ?_
    refine AR.op rfl (aop_call1 rfl rfl (by simp) (least_ok W0 hT s)) ?_
    refine AR.op rfl (aop_move (.inl rfl) rfl) ?_
    refine (show AR _ _ _ _ [(0, _), (1, _), (2, _), (6, _), (7, _), (8, _), (9, _), (10, _), (11, _), (12, _), (15, _), (18, _), (31, _), (32, _), (33, _), (34, _), (35, _), (36, _), (37, _), (38, _), (39, _), (40, _), (41, _), (42, _), (43, _), (44, _), (45, _), (46, _), (47, _), (48, _)] _ _ from ?_)
    refine AR.op rfl (aop_call1 rfl rfl (by simp) (rleast_ok W0 s)) ?_
    refine AR.op rfl ((aop_eql rfl rfl rfl).tt (rfl)) ?_
    refine AR.op rfl (aop_pick rfl rfl rfl) ?_
    refine (show AR _ _ _ _ [(0, _), (1, _), (2, _), (6, _), (7, _), (8, _), (9, _), (10, _), (11, _), (12, _), (15, _), (18, _), (31, _), (32, _), (33, _), (34, _), (35, _), (36, _), (37, _), (38, _), (39, _), (40, _), (41, _), (42, _), (43, _), (44, _), (45, _), (46, _), (47, _), (48, _), (49, _), (50, _), (51, _)] _ _ from ?_)
    refine AR.op rfl (aop_move (.inl rfl) rfl) ?_
    refine AR.op rfl (aop_move (.inl rfl) rfl) ?_
    refine AR.op rfl (aop_call1 rfl rfl (by simp) (count_ok W0 s)) ?_
    refine (show AR _ _ _ _ [(0, _), (1, _), (2, _), (6, _), (7, _), (8, _), (9, _), (10, _), (11, _), (12, _), (15, _), (18, _), (31, _), (32, _), (33, _), (34, _), (35, _), (36, _), (37, _), (38, _), (39, _), (40, _), (41, _), (42, _), (43, _), (44, _), (45, _), (46, _), (47, _), (48, _), (49, _), (50, _), (51, _), (52, _), (53, _), (54, _)] _ _ from ?_)
    refine AR.op rfl (aop_move (.inl rfl) rfl) ?_
    refine AR.op rfl ((aop_len rfl rfl rfl el29).conv (by rw [List.length_map])) ?_
    refine AR.op rfl ((aop_eql rfl rfl rfl).tt (rfl)) ?_
    refine (show AR _ _ _ _ [(0, _), (1, _), (2, _), (6, _), (7, _), (8, _), (9, _), (10, _), (11, _), (12, _), (15, _), (18, _), (31, _), (32, _), (33, _), (34, _), (35, _), (36, _), (37, _), (38, _), (39, _), (40, _), (41, _), (42, _), (43, _), (44, _), (45, _), (46, _), (47, _), (48, _), (49, _), (50, _), (51, _), (52, _), (53, _), (54, _), (55, _), (56, _), (57, _)] _ _ from ?_)
    refine AR.op rfl (aop_pick rfl rfl rfl) ?_
    refine AR.op rfl (aop_move (.inl rfl) rfl) ?_
    refine AR.op rfl (aop_move (.inl rfl) rfl) ?_
    refine (show AR _ _ _ _ [(0, _), (1, _), (2, _), (6, _), (7, _), (8, _), (9, _), (10, _), (11, _), (12, _), (15, _), (18, _), (31, _), (32, _), (33, _), (34, _), (35, _), (36, _), (37, _), (38, _), (39, _), (40, _), (41, _), (42, _), (43, _), (44, _), (45, _), (46, _), (47, _), (48, _), (49, _), (50, _), (51, _), (52, _), (53, _), (54, _), (55, _), (56, _), (57, _), (58, _), (59, _), (60, _)] _ _ from ?_)
    refine AR.op rfl (aop_move (.inl rfl) rfl) ?_
    refine AR.op rfl (aop_call1 rfl rfl (by simp) (with2_ok W0 s i)) ?_
    refine AR.op rfl (aop_move (.inl rfl) rfl) ?_
    refine (show AR _ _ _ _ [(0, _), (1, _), (2, _), (6, _), (7, _), (8, _), (9, _), (10, _), (11, _), (12, _), (15, _), (18, _), (31, _), (32, _), (33, _), (34, _), (35, _), (36, _), (37, _), (38, _), (39, _), (40, _), (41, _), (42, _), (43, _), (44, _), (45, _), (46, _), (47, _), (48, _), (49, _), (50, _), (51, _), (52, _), (53, _), (54, _), (55, _), (56, _), (57, _), (58, _), (59, _), (60, _), (61, _), (62, _), (63, _)] _ _ from ?_)
    refine AR.op rfl (aop_move (.inl rfl) rfl) ?_
    refine AR.op rfl (aop_call1 rfl rfl (by simp) (with_ok W0 s i)) ?_
    refine AR.op rfl ((aop_eql64 rfl rfl rfl).tt (rfl)) ?_
    refine (show AR _ _ _ _ [(0, _), (1, _), (2, _), (6, _), (7, _), (8, _), (9, _), (10, _), (11, _), (12, _), (15, _), (18, _), (31, _), (32, _), (33, _), (34, _), (35, _), (36, _), (37, _), (38, _), (39, _), (40, _), (41, _), (42, _), (43, _), (44, _), (45, _), (46, _), (47, _), (48, _), (49, _), (50, _), (51, _), (52, _), (53, _), (54, _), (55, _), (56, _), (57, _), (58, _), (59, _), (60, _), (61, _), (62, _), (63, _), (64, _), (65, _), (66, _)] _ _ from ?_)
    refine AR.op rfl (aop_pick rfl rfl rfl) ?_
    refine AR.op rfl (aop_move (.inl rfl) rfl) ?_
    refine AR.op rfl (aop_move (.inl rfl) rfl) ?_
    refine (show AR _ _ _ _ [(0, _), (1, _), (2, _), (6, _), (7, _), (8, _), (9, _), (10, _), (11, _), (12, _), (15, _), (18, _), (31, _), (32, _), (33, _), (34, _), (35, _), (36, _), (37, _), (38, _), (39, _), (40, _), (41, _), (42, _), (43, _), (44, _), (45, _), (46, _), (47, _), (48, _), (49, _), (50, _), (51, _), (52, _), (53, _), (54, _), (55, _), (56, _), (57, _), (58, _), (59, _), (60, _), (61, _), (62, _), (63, _), (64, _), (65, _), (66, _), (67, _), (68, _), (69, _)] _ _ from ?_)
    refine AR.op rfl (aop_move (.inl rfl) rfl) ?_
    refine AR.op rfl (aop_call1 rfl rfl (by simp) (without_ok W0 s i)) ?_
    refine AR.op rfl (aop_move (.inl rfl) rfl) ?_
    refine (show AR _ _ _ _ [(0, _), (1, _), (2, _), (6, _), (7, _), (8, _), (9, _), (10, _), (11, _), (12, _), (15, _), (18, _), (31, _), (32, _), (33, _), (34, _), (35, _), (36, _), (37, _), (38, _), (39, _), (40, _), (41, _), (42, _), (43, _), (44, _), (45, _), (46, _), (47, _), (48, _), (49, _), (50, _), (51, _), (52, _), (53, _), (54, _), (55, _), (56, _), (57, _), (58, _), (59, _), (60, _), (61, _), (62, _), (63, _), (64, _), (65, _), (66, _), (67, _), (68, _), (69, _), (70, _), (71, _), (72, _)] _ _ from ?_)
    refine AR.op rfl (aop_move (.inl rfl) rfl) ?_
    refine AR.op rfl (aop_call1 rfl rfl (by simp) (rwithout_ok W0 s i)) ?_
    refine AR.op rfl ((aop_eql64 rfl rfl rfl).tt (rfl)) ?_
    refine (show AR _ _ _ _ [(0, _), (1, _), (2, _), (6, _), (7, _), (8, _), (9, _), (10, _), (11, _), (12, _), (15, _), (18, _), (31, _), (32, _), (33, _), (34, _), (35, _), (36, _), (37, _), (38, _), (39, _), (40, _), (41, _), (42, _), (43, _), (44, _), (45, _), (46, _), (47, _), (48, _), (49, _), (50, _), (51, _), (52, _), (53, _), (54, _), (55, _), (56, _), (57, _), (58, _), (59, _), (60, _), (61, _), (62, _), (63, _), (64, _), (65, _), (66, _), (67, _), (68, _), (69, _), (70, _), (71, _), (72, _), (73, _), (74, _), (75, _)] _ _ from ?_)
    refine AR.op rfl (aop_pick rfl rfl rfl) ?_
    refine AR.op rfl (aop_move (.inl rfl) rfl) ?_
    refine AR.op rfl (aop_move (.inl rfl) rfl) ?_
    refine (show AR _ _ _ _ [(0, _), (1, _), (2, _), (6, _), (7, _), (8, _), (9, _), (10, _), (11, _), (12, _), (15, _), (18, _), (31, _), (32, _), (33, _), (34, _), (35, _), (36, _), (37, _), (38, _), (39, _), (40, _), (41, _), (42, _), (43, _), (44, _), (45, _), (46, _), (47, _), (48, _), (49, _), (50, _), (51, _), (52, _), (53, _), (54, _), (55, _), (56, _), (57, _), (58, _), (59, _), (60, _), (61, _), (62, _), (63, _), (64, _), (65, _), (66, _), (67, _), (68, _), (69, _), (70, _), (71, _), (72, _), (73, _), (74, _), (75, _), (76, _), (77, _), (78, _)] _ _ from ?_)
    refine AR.op rfl (aop_move (.inl rfl) rfl) ?_
    refine AR.op rfl (aop_call1 rfl rfl (by simp) (has2_ok W0 s i)) ?_
    refine AR.op rfl (aop_move (.inl rfl) rfl) ?_
    refine (show AR _ _ _ _ [(0, _), (1, _), (2, _), (6, _), (7, _), (8, _), (9, _), (10, _), (11, _), (12, _), (15, _), (18, _), (31, _), (32, _), (33, _), (34, _), (35, _), (36, _), (37, _), (38, _), (39, _), (40, _), (41, _), (42, _), (43, _), (44, _), (45, _), (46, _), (47, _), (48, _), (49, _), (50, _), (51, _), (52, _), (53, _), (54, _), (55, _), (56, _), (57, _), (58, _), (59, _), (60, _), (61, _), (62, _), (63, _), (64, _), (65, _), (66, _), (67, _), (68, _), (69, _), (70, _), (71, _), (72, _), (73, _), (74, _), (75, _), (76, _), (77, _), (78, _), (79, _), (80, _), (81, _)] _ _ from ?_)
    refine AR.op rfl (aop_move (.inl rfl) rfl) ?_
    refine AR.op rfl (aop_call1 rfl rfl (by simp) (has_ok W0 s i)) ?_
    refine AR.op rfl ((aop_eqb rfl rfl rfl Tryd.underlying4).conv (by rw [beq_self_eq_true])) ?_
    refine (show AR _ _ _ _ [(0, _), (1, _), (2, _), (6, _), (7, _), (8, _), (9, _), (10, _), (11, _), (12, _), (15, _), (18, _), (31, _), (32, _), (33, _), (34, _), (35, _), (36, _), (37, _), (38, _), (39, _), (40, _), (41, _), (42, _), (43, _), (44, _), (45, _), (46, _), (47, _), (48, _), (49, _), (50, _), (51, _), (52, _), (53, _), (54, _), (55, _), (56, _), (57, _), (58, _), (59, _), (60, _), (61, _), (62, _), (63, _), (64, _), (65, _), (66, _), (67, _), (68, _), (69, _), (70, _), (71, _), (72, _), (73, _), (74, _), (75, _), (76, _), (77, _), (78, _), (79, _), (80, _), (81, _), (82, _), (83, _), (84, _)] _ _ from ?_)
    refine AR.op rfl (aop_pick rfl rfl rfl) ?_
    refine AR.op rfl (aop_move (.inr rfl) rfl) ?_
    refine AR.nil ?_
    refine hK11 _ (AWP.weak (Weak.kp (fr' := [(0, _), (1, _), (2, _), (6, _), (7, _), (8, _), (9, _), (10, _), (11, _), (12, _), (15, _), (18, _)]) ⟨rfl, rfl, rfl, rfl, rfl, rfl, rfl, rfl, rfl, rfl, rfl, rfl, trivial⟩) ?_)
    clear hK11 K11
    refine awp_ret ?_
    refine ⟨.inr rfl, _, rfl, ?_⟩
    rfl

theorem lwith_ok (W0 : World) (hT : Tab W0) (s : BitVec 64) (i k : Int) : Fun1 Tryd.prog W0 6 [u64 s, i64 i, i64 k] (bl true) := by
  refine fun1_of_awp Tryd.func6 rfl (by kernel_rfl) Tryd.ntmps6 (by simp) (by simp) ?_
  refine awp_seqK fun K1 hK1 => ?_
  refine awp_reg rfl ?_
  refine AR.op rfl (aop_move (.inr rfl) rfl) ?_
  refine AR.nil ?_
  refine hK1 _ (AWP.weak (Weak.kp (fr' := [(0, _), (1, _), (2, _), (6, _)]) ⟨rfl, rfl, rfl, rfl, trivial⟩) ?_)
  clear hK1 K1
  refine awp_seqK fun K2 hK2 => ?_
  refine awp_reg rfl ?_
  refine AR.op rfl (aop_call1 rfl rfl (by simp) (awake_ok W0 hT)) ?_
  refine AR.op rfl (aop_move (.inr rfl) rfl) ?_
  refine AR.nil ?_
  refine hK2 _ (AWP.weak (Weak.kp (fr' := [(0, _), (1, _), (2, _), (6, _), (7, _)]) ⟨rfl, rfl, rfl, rfl, rfl, trivial⟩) ?_)
  clear hK2 K2
  refine awp_seqK fun K3 hK3 => ?_
  refine awp_seqK fun K4 hK4 => ?_
  refine awp_reg rfl ?_
  refine AR.op rfl (aop_move (.inl rfl) rfl) ?_
  refine AR.op rfl (aop_not rfl rfl) ?_
  refine AR.nil ?_
  refine hK4 _ (AWP.weak (Weak.kp (fr' := [(0, _), (1, _), (2, _), (6, _), (7, _), (14, _)]) ⟨rfl, rfl, rfl, rfl, rfl, rfl, trivial⟩) ?_)
  clear hK4 K4
  refine awp_cond_f rfl ?_
  refine awp_skip ?_
  refine hK3 _ ?_
  clear hK3 K3
  refine awp_seqK fun K5 hK5 => ?_
  refine awp_reg rfl ?_
  refine AR.op rfl (aop_move (.inl rfl) rfl) ?_
  refine AR.op rfl (aop_move (.inl rfl) rfl) ?_
  refine AR.op rfl (aop_call1 rfl rfl (by simp) (with2_ok W0 _ _)) ?_
  refine (show AR _ _ _ _ [(0, _), (1, _), (2, _), (6, _), (7, _), (14, _), (15, _), (16, _), (17, _)] _ _ from ?_)
  refine AR.op rfl (aop_move (.inl rfl) rfl) ?_
  refine AR.op rfl (aop_call1 rfl rfl (by simp) (without_ok W0 _ _)) ?_
  refine AR.op rfl (aop_move (.inr rfl) rfl) ?_
  refine AR.nil ?_
  refine hK5 _ (AWP.weak (Weak.kp (fr' := [(0, _), (1, _), (2, _), (6, _), (7, _), (8, _), (14, _)]) ⟨rfl, rfl, rfl, rfl, rfl, rfl, rfl, trivial⟩) ?_)
  clear hK5 K5
  refine awp_seqK fun K6 hK6 => ?_
  refine awp_reg rfl ?_
  refine AR.op rfl (aop_move (.inl rfl) rfl) ?_
  refine AR.op rfl (aop_move (.inl rfl) rfl) ?_
  refine AR.op rfl (aop_call1 rfl rfl (by simp) (without_ok W0 _ _)) ?_
  refine (show AR _ _ _ _ [(0, _), (1, _), (2, _), (6, _), (7, _), (8, _), (14, _), (20, _), (21, _), (22, _)] _ _ from ?_)
  refine AR.op rfl (aop_move (.inl rfl) rfl) ?_
  refine AR.op rfl (aop_call1 rfl rfl (by simp) (with2_ok W0 _ _)) ?_
  refine AR.op rfl (aop_move (.inr rfl) rfl) ?_
  refine AR.nil ?_
  refine hK6 _ (AWP.weak (Weak.kp (fr' := [(0, _), (1, _), (2, _), (6, _), (7, _), (8, _), (9, _), (14, _)]) ⟨rfl, rfl, rfl, rfl, rfl, rfl, rfl, rfl, trivial⟩) ?_)
  clear hK6 K6
  refine awp_seqK fun K7 hK7 => ?_
  refine awp_reg rfl ?_
  refine AR.op rfl (aop_move (.inl rfl) rfl) ?_
  refine AR.op rfl (aop_move (.inl rfl) rfl) ?_
  refine AR.op rfl (aop_call1 rfl rfl (by simp) (with2_ok W0 _ _)) ?_
  refine (show AR _ _ _ _ [(0, _), (1, _), (2, _), (6, _), (7, _), (8, _), (9, _), (14, _), (25, _), (26, _), (27, _)] _ _ from ?_)
  refine AR.op rfl (aop_move (.inl rfl) rfl) ?_
  refine AR.op rfl (aop_call1 rfl rfl (by simp) (with2_ok W0 _ _)) ?_
  refine AR.op rfl (aop_move (.inr rfl) rfl) ?_
  refine AR.nil ?_
  refine hK7 _ (AWP.weak (Weak.kp (fr' := [(0, _), (1, _), (2, _), (6, _), (7, _), (8, _), (9, _), (10, _), (14, _)]) ⟨rfl, rfl, rfl, rfl, rfl, rfl, rfl, rfl, rfl, trivial⟩) ?_)
  clear hK7 K7
  refine awp_seqK fun K8 hK8 => ?_
  refine awp_seqK fun K9 hK9 => ?_
  refine awp_reg rfl ?_
  refine AR.op rfl (aop_move (.inl rfl) rfl) ?_
  refine AR.op rfl (aop_move (.inl rfl) rfl) ?_
  refine AR.op rfl (aop_move (.inl rfl) rfl) ?_
  refine (show AR _ _ _ _ [(0, _), (1, _), (2, _), (6, _), (7, _), (8, _), (9, _), (10, _), (14, _), (30, _), (31, _), (32, _)] _ _ from ?_)
  refine AR.op rfl (aop_call1 rfl rfl (by simp) (without_ok W0 _ _)) ?_
  refine AR.op rfl ((aop_neq64 rfl rfl rfl).ff (not_not_intro (Bv.w1 s _))) ?_
  refine AR.op rfl (aop_move (.inl rfl) rfl) ?_
  refine (show AR _ _ _ _ [(0, _), (1, _), (2, _), (6, _), (7, _), (8, _), (9, _), (10, _), (14, _), (30, _), (31, _), (32, _), (33, _), (34, _), (35, _)] _ _ from ?_)
  refine AR.op rfl (aop_move (.inl rfl) rfl) ?_
  refine AR.op rfl (aop_move (.inl rfl) rfl) ?_
  refine AR.op rfl (aop_move (.inl rfl) rfl) ?_
  refine (show AR _ _ _ _ [(0, _), (1, _), (2, _), (6, _), (7, _), (8, _), (9, _), (10, _), (14, _), (30, _), (31, _), (32, _), (33, _), (34, _), (35, _), (36, _), (37, _), (38, _)] _ _ from ?_)
  refine AR.op rfl (aop_call1 rfl rfl (by simp) (with2_ok W0 _ _)) ?_
  refine AR.op rfl ((aop_neq64 rfl rfl rfl).ff (not_not_intro (Bv.w2 s _))) ?_
  refine AR.op rfl (aop_pick rfl rfl rfl) ?_
  refine (show AR _ _ _ _ [(0, _), (1, _), (2, _), (6, _), (7, _), (8, _), (9, _), (10, _), (14, _), (30, _), (31, _), (32, _), (33, _), (34, _), (35, _), (36, _), (37, _), (38, _), (39, _), (40, _), (41, _)] _ _ from ?_)
  refine AR.op rfl (aop_move (.inl rfl) rfl) ?_
  refine AR.op rfl (aop_move (.inl rfl) rfl) ?_
  refine AR.op rfl (aop_move (.inl rfl) rfl) ?_
  refine (show AR _ _ _ _ [(0, _), (1, _), (2, _), (6, _), (7, _), (8, _), (9, _), (10, _), (14, _), (30, _), (31, _), (32, _), (33, _), (34, _), (35, _), (36, _), (37, _), (38, _), (39, _), (40, _), (41, _), (42, _), (43, _), (44, _)] _ _ from ?_)
  refine AR.op rfl (aop_move (.inl rfl) rfl) ?_
  refine AR.op rfl (aop_call1 rfl rfl (by simp) (with2_ok W0 _ _)) ?_
  refine AR.op rfl (aop_move (.inl rfl) rfl) ?_
  refine (show AR _ _ _ _ [(0, _), (1, _), (2, _), (6, _), (7, _), (8, _), (9, _), (10, _), (14, _), (30, _), (31, _), (32, _), (33, _), (34, _), (35, _), (36, _), (37, _), (38, _), (39, _), (40, _), (41, _), (42, _), (43, _), (44, _), (45, _), (46, _), (47, _)] _ _ from ?_)
  refine AR.op rfl (aop_call1 rfl rfl (by simp) (with2_ok W0 _ _)) ?_
  refine AR.op rfl ((aop_neq64 rfl rfl rfl).ff (not_not_intro (Bv.w3 s _ _))) ?_
  refine AR.op rfl (aop_pick rfl rfl rfl) ?_
  refine AR.nil ?_
  refine hK9 _ (AWP.weak (Weak.kp (fr' := [(0, _), (1, _), (2, _), (6, _), (7, _), (8, _), (9, _), (10, _), (14, _), (50, _)]) ⟨rfl, rfl, rfl, rfl, rfl, rfl, rfl, rfl, rfl, rfl, trivial⟩) ?_)
  clear hK9 K9
  refine awp_cond_f rfl ?_
  refine awp_skip ?_
  refine hK8 _ ?_
  clear hK8 K8
  refine awp_seqK fun K10 hK10 => ?_
  refine awp_seqK fun K11 hK11 => ?_
  rcases Bv.i3 i with h0 | ⟨h0, h1⟩ | ⟨h0, h1, j, rfl, hj⟩
  · have hi : ¬ (0 ≤ i ∧ i ≤ 63) := by omega
    refine awp_reg rfl ?_
    refine AR.op rfl (aop_move (.inl rfl) rfl) ?_
    refine AR.op rfl ((aop_lss rfl rfl rfl).tt (h0)) ?_
    refine AR.op rfl (aop_move (.inl rfl) rfl) ?_
    refine (show AR _ _ _ _ [(0, _), (1, _), (2, _), (6, _), (7, _), (8, _), (9, _), (10, _), (14, _), (50, _), (51, _), (52, _), (53, _)] _ _ from ?_)
    refine AR.skip rfl ?_
    refine AR.skip rfl ?_
    refine AR.op rfl (aop_pick rfl rfl rfl) ?_
    refine AR.nil ?_
    refine hK11 _ (AWP.weak (Weak.kp (fr' := [(0, _), (1, _), (2, _), (6, _), (7, _), (8, _), (9, _), (10, _), (14, _), (50, _), (56, _)]) ⟨rfl, rfl, rfl, rfl, rfl, rfl, rfl, rfl, rfl, rfl, rfl, trivial⟩) ?_)
    clear hK11 K11
    refine awp_cond_t rfl ?_
    refine awp_seqK fun K12 hK12 => ?_
    refine awp_reg rfl ?_
    refine AR.op rfl (aop_move (.inl rfl) rfl) ?_
    refine AR.op rfl (aop_move (.inl rfl) rfl) ?_
    refine AR.op rfl ((aop_eql64 rfl rfl rfl).tt (Bv.o1 hi)) ?_
    refine (show AR _ _ _ _ [(0, _), (1, _), (2, _), (6, _), (7, _), (8, _), (9, _), (10, _), (14, _), (50, _), (56, _), (57, _), (58, _), (59, _)] _ _ from ?_)
    refine AR.op rfl (aop_move (.inl rfl) rfl) ?_
    refine AR.op rfl (aop_move (.inl rfl) rfl) ?_
    refine AR.op rfl (aop_move (.inl rfl) rfl) ?_
    refine (show AR _ _ _ _ [(0, _), (1, _), (2, _), (6, _), (7, _), (8, _), (9, _), (10, _), (14, _), (50, _), (56, _), (57, _), (58, _), (59, _), (60, _), (61, _), (62, _)] _ _ from ?_)
    refine AR.op rfl ((aop_eql64 rfl rfl rfl).tt (Bv.o2 hi)) ?_
    refine AR.op rfl (aop_pick rfl rfl rfl) ?_
    refine AR.op rfl (aop_move (.inr rfl) rfl) ?_
    refine AR.nil ?_
    refine hK12 _ (AWP.weak (Weak.kp (fr' := [(0, _), (1, _), (2, _), (6, _), (7, _), (8, _), (9, _), (10, _), (14, _), (50, _), (56, _)]) ⟨rfl, rfl, rfl, rfl, rfl, rfl, rfl, rfl, rfl, rfl, rfl, trivial⟩) ?_)
    clear hK12 K12
    refine awp_ret ?_
    refine ⟨.inr rfl, _, rfl, ?_⟩
    rfl
  · have hi : ¬ (0 ≤ i ∧ i ≤ 63) := by omega
    refine awp_reg rfl ?_
    refine AR.op rfl (aop_move (.inl rfl) rfl) ?_
    refine AR.op rfl ((aop_lss rfl rfl rfl).ff (h0)) ?_
    refine AR.op rfl (aop_move (.inl rfl) rfl) ?_
    refine (show AR _ _ _ _ [(0, _), (1, _), (2, _), (6, _), (7, _), (8, _), (9, _), (10, _), (14, _), (50, _), (51, _), (52, _), (53, _)] _ _ from ?_)
    refine AR.op rfl (aop_move (.inl rfl) rfl) ?_
    refine AR.op rfl ((aop_gtr rfl rfl rfl).tt (h1)) ?_
    refine AR.op rfl (aop_pick rfl rfl rfl) ?_
    refine AR.nil ?_
    refine hK11 _ (AWP.weak (Weak.kp (fr' := [(0, _), (1, _), (2, _), (6, _), (7, _), (8, _), (9, _), (10, _), (14, _), (50, _), (56, _)]) ⟨rfl, rfl, rfl, rfl, rfl, rfl, rfl, rfl, rfl, rfl, rfl, trivial⟩) ?_)
    clear hK11 K11
    refine awp_cond_t rfl ?_
    refine awp_seqK fun K13 hK13 => ?_
    refine awp_reg rfl ?_
    refine AR.op rfl (aop_move (.inl rfl) rfl) ?_
    refine AR.op rfl (aop_move (.inl rfl) rfl) ?_
    refine AR.op rfl ((aop_eql64 rfl rfl rfl).tt (Bv.o1 hi)) ?_
    refine (show AR _ _ _ _ [(0, _), (1, _), (2, _), (6, _), (7, _), (8, _), (9, _), (10, _), (14, _), (50, _), (56, _), (57, _), (58, _), (59, _)] _ _ from ?_)
    refine AR.op rfl (aop_move (.inl rfl) rfl) ?_
    refine AR.op rfl (aop_move (.inl rfl) rfl) ?_
    refine AR.op rfl (aop_move (.inl rfl) rfl) ?_
    refine (show AR _ _ _ _ [(0, _), (1, _), (2, _), (6, _), (7, _), (8, _), (9, _), (10, _), (14, _), (50, _), (56, _), (57, _), (58, _), (59, _), (60, _), (61, _), (62, _)] _ _ from ?_)
    refine AR.op rfl ((aop_eql64 rfl rfl rfl).tt (Bv.o2 hi)) ?_
    refine AR.op rfl (aop_pick rfl rfl rfl) ?_
    refine AR.op rfl (aop_move (.inr rfl) rfl) ?_
    refine AR.nil ?_
    refine hK13 _ (AWP.weak (Weak.kp (fr' := [(0, _), (1, _), (2, _), (6, _), (7, _), (8, _), (9, _), (10, _), (14, _), (50, _), (56, _)]) ⟨rfl, rfl, rfl, rfl, rfl, rfl, rfl, rfl, rfl, rfl, rfl, trivial⟩) ?_)
    clear hK13 K13
    refine awp_ret ?_
    refine ⟨.inr rfl, _, rfl, ?_⟩
    rfl
  · skip
    refine awp_reg rfl ?_
    refine AR.op rfl (aop_move (.inl rfl) rfl) ?_
    refine AR.op rfl ((aop_lss rfl rfl rfl).ff (h0)) ?_
    refine AR.op rfl (aop_move (.inl rfl) rfl) ?_
    refine (show AR _ _ _ _ [(0, _), (1, _), (2, _), (6, _), (7, _), (8, _), (9, _), (10, _), (14, _), (50, _), (51, _), (52, _), (53, _)] _ _ from ?_)
    refine AR.op rfl (aop_move (.inl rfl) rfl) ?_
    refine AR.op rfl ((aop_gtr rfl rfl rfl).ff (h1)) ?_
    refine AR.op rfl (aop_pick rfl rfl rfl) ?_
    refine AR.nil ?_
    refine hK11 _ (AWP.weak (Weak.kp (fr' := [(0, _), (1, _), (2, _), (6, _), (7, _), (8, _), (9, _), (10, _), (14, _), (50, _), (56, _)]) ⟨rfl, rfl, rfl, rfl, rfl, rfl, rfl, rfl, rfl, rfl, rfl, trivial⟩) ?_)
    clear hK11 K11
    refine awp_cond_f rfl ?_
    refine awp_skip ?_
    refine hK10 _ ?_
    clear hK10 K10
    refine awp_seqK fun K14 hK14 => ?_
    refine awp_reg rfl ?_
    refine AR.op rfl (aop_move (.inl rfl) rfl) ?_
    refine AR.op rfl (aop_call1 rfl rfl (by simp) (count_ok W0 _)) ?_
    refine AR.op rfl (aop_move (.inr rfl) rfl) ?_
    refine AR.nil ?_
    refine hK14 _ (AWP.weak (Weak.kp (fr' := [(0, _), (1, _), (2, _), (6, _), (7, _), (8, _), (9, _), (10, _), (11, _), (14, _), (50, _), (56, _)]) ⟨rfl, rfl, rfl, rfl, rfl, rfl, rfl, rfl, rfl, rfl, rfl, rfl, trivial⟩) ?_)
    clear hK14 K14
    refine awp_seqK fun K15 hK15 => ?_
    cases hb : s.getLsbD j
    · skip
      refine awp_reg rfl ?_
      refine AR.op rfl (aop_move (.inl rfl) rfl) ?_
      refine AR.op rfl (aop_move (.inl rfl) rfl) ?_
      refine AR.op rfl ((aop_call1 rfl rfl (by simp) (has2_ok W0 _ _)).conv (by rw [Bv.q1 hj])) ?_
      refine (show AR _ _ _ _ [(0, _), (1, _), (2, _), (6, _), (7, _), (8, _), (9, _), (10, _), (11, _), (14, _), (50, _), (56, _), (67, _), (68, _), (69, _)] _ _ from ?_)
      refine AR.op rfl (aop_move (.inl rfl) rfl) ?_
      refine AR.op rfl (aop_move (.inl rfl) rfl) ?_
      refine AR.op rfl (aop_move (.inl rfl) rfl) ?_
      refine (show AR _ _ _ _ [(0, _), (1, _), (2, _), (6, _), (7, _), (8, _), (9, _), (10, _), (11, _), (14, _), (50, _), (56, _), (67, _), (68, _), (69, _), (70, _), (71, _), (72, _)] _ _ from ?_)
      refine AR.op rfl ((aop_call1 rfl rfl (by simp) (has2_ok W0 _ _)).conv (by rw [Bv.q2 hj])) ?_
      refine AR.op rfl (aop_not rfl rfl) ?_
      refine AR.op rfl (aop_pick rfl rfl rfl) ?_
      refine (show AR _ _ _ _ [(0, _), (1, _), (2, _), (6, _), (7, _), (8, _), (9, _), (10, _), (11, _), (14, _), (50, _), (56, _), (67, _), (68, _), (69, _), (70, _), (71, _), (72, _), (73, _), (74, _), (75, _)] _ _ from ?_)
      refine AR.op rfl (aop_move (.inl rfl) rfl) ?_
      refine AR.op rfl (aop_move (.inl rfl) rfl) ?_
      refine AR.op rfl (aop_call1 rfl rfl (by simp) (count_ok W0 _)) ?_
      refine (show AR _ _ _ _ [(0, _), (1, _), (2, _), (6, _), (7, _), (8, _), (9, _), (10, _), (11, _), (14, _), (50, _), (56, _), (67, _), (68, _), (69, _), (70, _), (71, _), (72, _), (73, _), (74, _), (75, _), (76, _), (77, _), (78, _)] _ _ from ?_)
      refine AR.op rfl (aop_move (.inl rfl) rfl) ?_
      refine AR.op rfl (aop_call1 rfl rfl (by simp) (count_ok W0 _)) ?_
      refine AR.op rfl (aop_add rfl rfl rfl (i64_wrap (by omega) (by have := Bv.list_length_le ((s ||| Bv.bit (j : Int)) &&& ~~~Bv.bit (j : Int)); omega))) ?_
      refine (show AR _ _ _ _ [(0, _), (1, _), (2, _), (6, _), (7, _), (8, _), (9, _), (10, _), (11, _), (14, _), (50, _), (56, _), (67, _), (68, _), (69, _), (70, _), (71, _), (72, _), (73, _), (74, _), (75, _), (76, _), (77, _), (78, _), (79, _), (80, _), (81, _)] _ _ from ?_)
      refine AR.op rfl ((aop_eql rfl rfl rfl).tt (Bv.q3 s hj)) ?_
      refine AR.op rfl (aop_pick rfl rfl rfl) ?_
      refine AR.op rfl (aop_move (.inl rfl) rfl) ?_
      refine (show AR _ _ _ _ [(0, _), (1, _), (2, _), (6, _), (7, _), (8, _), (9, _), (10, _), (11, _), (14, _), (50, _), (56, _), (67, _), (68, _), (69, _), (70, _), (71, _), (72, _), (73, _), (74, _), (75, _), (76, _), (77, _), (78, _), (79, _), (80, _), (81, _), (82, _), (83, _), (84, _)] _ _ from ?_)
      refine AR.op rfl (aop_move (.inl rfl) rfl) ?_
      refine AR.op rfl (aop_move (.inl rfl) rfl) ?_
      refine AR.op rfl (aop_call1 rfl rfl (by simp) (count_ok W0 _)) ?_
      refine (show AR _ _ _ _ [(0, _), (1, _), (2, _), (6, _), (7, _), (8, _), (9, _), (10, _), (11, _), (14, _), (50, _), (56, _), (67, _), (68, _), (69, _), (70, _), (71, _), (72, _), (73, _), (74, _), (75, _), (76, _), (77, _), (78, _), (79, _), (80, _), (81, _), (82, _), (83, _), (84, _), (85, _), (86, _), (87, _)] _ _ from ?_)
      refine AR.op rfl ((aop_eql rfl rfl rfl).tt (by rw [Bv.q4 hj hb])) ?_
      refine AR.op rfl (aop_move (.inl rfl) rfl) ?_
      refine AR.skip rfl ?_
      refine (show AR _ _ _ _ [(0, _), (1, _), (2, _), (6, _), (7, _), (8, _), (9, _), (10, _), (11, _), (14, _), (50, _), (56, _), (67, _), (68, _), (69, _), (70, _), (71, _), (72, _), (73, _), (74, _), (75, _), (76, _), (77, _), (78, _), (79, _), (80, _), (81, _), (82, _), (83, _), (84, _), (85, _), (86, _), (87, _), (88, _), (89, _), (90, _)] _ _ from ?_)
      refine AR.skip rfl ?_
      refine AR.skip rfl ?_
      refine AR.skip rfl ?_
      refine (show AR _ _ _ _ [(0, _), (1, _), (2, _), (6, _), (7, _), (8, _), (9, _), (10, _), (11, _), (14, _), (50, _), (56, _), (67, _), (68, _), (69, _), (70, _), (71, _), (72, _), (73, _), (74, _), (75, _), (76, _), (77, _), (78, _), (79, _), (80, _), (81, _), (82, _), (83, _), (84, _), (85, _), (86, _), (87, _), (88, _), (89, _), (90, _), (91, _), (92, _), (93, _)] _ _ from ?_)
      refine AR.op rfl (aop_pick rfl rfl rfl) ?_
      refine AR.op rfl (aop_pick rfl rfl rfl) ?_
      refine AR.op rfl (aop_move (.inr rfl) rfl) ?_
      refine AR.nil ?_
      refine hK15 _ (AWP.weak (Weak.kp (fr' := [(0, _), (1, _), (2, _), (6, _), (7, _), (8, _), (9, _), (10, _), (11, _), (14, _), (50, _), (56, _)]) ⟨rfl, rfl, rfl, rfl, rfl, rfl, rfl, rfl, rfl, rfl, rfl, rfl, trivial⟩) ?_)
      clear hK15 K15
      refine awp_ret ?_
      refine ⟨.inr rfl, _, rfl, ?_⟩
      rfl
    · skip
      refine awp_reg rfl ?_
      refine AR.op rfl (aop_move (.inl rfl) rfl) ?_
      refine AR.op rfl (aop_move (.inl rfl) rfl) ?_
      refine AR.op rfl ((aop_call1 rfl rfl (by simp) (has2_ok W0 _ _)).conv (by rw [Bv.q1 hj])) ?_
      refine (show AR _ _ _ _ [(0, _), (1, _), (2, _), (6, _), (7, _), (8, _), (9, _), (10, _), (11, _), (14, _), (50, _), (56, _), (67, _), (68, _), (69, _)] _ _ from ?_)
      refine AR.op rfl (aop_move (.inl rfl) rfl) ?_
      refine AR.op rfl (aop_move (.inl rfl) rfl) ?_
      refine AR.op rfl (aop_move (.inl rfl) rfl) ?_
      refine (show AR _ _ _ _ [(0, _), (1, _), (2, _), (6, _), (7, _), (8, _), (9, _), (10, _), (11, _), (14, _), (50, _), (56, _), (67, _), (68, _), (69, _), (70, _), (71, _), (72, _)] _ _ from ?_)
      refine AR.op rfl ((aop_call1 rfl rfl (by simp) (has2_ok W0 _ _)).conv (by rw [Bv.q2 hj])) ?_
      refine AR.op rfl (aop_not rfl rfl) ?_
      refine AR.op rfl (aop_pick rfl rfl rfl) ?_
      refine (show AR _ _ _ _ [(0, _), (1, _), (2, _), (6, _), (7, _), (8, _), (9, _), (10, _), (11, _), (14, _), (50, _), (56, _), (67, _), (68, _), (69, _), (70, _), (71, _), (72, _), (73, _), (74, _), (75, _)] _ _ from ?_)
      refine AR.op rfl (aop_move (.inl rfl) rfl) ?_
      refine AR.op rfl (aop_move (.inl rfl) rfl) ?_
      refine AR.op rfl (aop_call1 rfl rfl (by simp) (count_ok W0 _)) ?_
      refine (show AR _ _ _ _ [(0, _), (1, _), (2, _), (6, _), (7, _), (8, _), (9, _), (10, _), (11, _), (14, _), (50, _), (56, _), (67, _), (68, _), (69, _), (70, _), (71, _), (72, _), (73, _), (74, _), (75, _), (76, _), (77, _), (78, _)] _ _ from ?_)
      refine AR.op rfl (aop_move (.inl rfl) rfl) ?_
      refine AR.op rfl (aop_call1 rfl rfl (by simp) (count_ok W0 _)) ?_
      refine AR.op rfl (aop_add rfl rfl rfl (i64_wrap (by omega) (by have := Bv.list_length_le ((s ||| Bv.bit (j : Int)) &&& ~~~Bv.bit (j : Int)); omega))) ?_
      refine (show AR _ _ _ _ [(0, _), (1, _), (2, _), (6, _), (7, _), (8, _), (9, _), (10, _), (11, _), (14, _), (50, _), (56, _), (67, _), (68, _), (69, _), (70, _), (71, _), (72, _), (73, _), (74, _), (75, _), (76, _), (77, _), (78, _), (79, _), (80, _), (81, _)] _ _ from ?_)
      refine AR.op rfl ((aop_eql rfl rfl rfl).tt (Bv.q3 s hj)) ?_
      refine AR.op rfl (aop_pick rfl rfl rfl) ?_
      refine AR.op rfl (aop_move (.inl rfl) rfl) ?_
      refine (show AR _ _ _ _ [(0, _), (1, _), (2, _), (6, _), (7, _), (8, _), (9, _), (10, _), (11, _), (14, _), (50, _), (56, _), (67, _), (68, _), (69, _), (70, _), (71, _), (72, _), (73, _), (74, _), (75, _), (76, _), (77, _), (78, _), (79, _), (80, _), (81, _), (82, _), (83, _), (84, _)] _ _ from ?_)
      refine AR.op rfl (aop_move (.inl rfl) rfl) ?_
      refine AR.op rfl (aop_move (.inl rfl) rfl) ?_
      refine AR.op rfl (aop_call1 rfl rfl (by simp) (count_ok W0 _)) ?_
      refine (show AR _ _ _ _ [(0, _), (1, _), (2, _), (6, _), (7, _), (8, _), (9, _), (10, _), (11, _), (14, _), (50, _), (56, _), (67, _), (68, _), (69, _), (70, _), (71, _), (72, _), (73, _), (74, _), (75, _), (76, _), (77, _), (78, _), (79, _), (80, _), (81, _), (82, _), (83, _), (84, _), (85, _), (86, _), (87, _)] _ _ from ?_)
      refine AR.op rfl ((aop_eql rfl rfl rfl).ff (by have := Bv.q3 s hj; rw [Bv.q5 hj hb] at this; omega)) ?_
      refine AR.op rfl (aop_move (.inl rfl) rfl) ?_
      refine AR.op rfl (aop_move (.inl rfl) rfl) ?_
      refine (show AR _ _ _ _ [(0, _), (1, _), (2, _), (6, _), (7, _), (8, _), (9, _), (10, _), (11, _), (14, _), (50, _), (56, _), (67, _), (68, _), (69, _), (70, _), (71, _), (72, _), (73, _), (74, _), (75, _), (76, _), (77, _), (78, _), (79, _), (80, _), (81, _), (82, _), (83, _), (84, _), (85, _), (86, _), (87, _), (88, _), (89, _), (90, _)] _ _ from ?_)
      refine AR.op rfl (aop_move (.inl rfl) rfl) ?_
      refine AR.op rfl (aop_call1 rfl rfl (by simp) (count_ok W0 _)) ?_
      refine AR.op rfl ((aop_eql rfl rfl rfl).tt (by rw [Bv.q5 hj hb])) ?_
      refine (show AR _ _ _ _ [(0, _), (1, _), (2, _), (6, _), (7, _), (8, _), (9, _), (10, _), (11, _), (14, _), (50, _), (56, _), (67, _), (68, _), (69, _), (70, _), (71, _), (72, _), (73, _), (74, _), (75, _), (76, _), (77, _), (78, _), (79, _), (80, _), (81, _), (82, _), (83, _), (84, _), (85, _), (86, _), (87, _), (88, _), (89, _), (90, _), (91, _), (92, _), (93, _)] _ _ from ?_)
      refine AR.op rfl (aop_pick rfl rfl rfl) ?_
      refine AR.op rfl (aop_pick rfl rfl rfl) ?_
      refine AR.op rfl (aop_move (.inr rfl) rfl) ?_
      refine AR.nil ?_
      refine hK15 _ (AWP.weak (Weak.kp (fr' := [(0, _), (1, _), (2, _), (6, _), (7, _), (8, _), (9, _), (10, _), (11, _), (14, _), (50, _), (56, _)]) ⟨rfl, rfl, rfl, rfl, rfl, rfl, rfl, rfl, rfl, rfl, rfl, rfl, trivial⟩) ?_)
      clear hK15 K15
      refine awp_ret ?_
      refine ⟨.inr rfl, _, rfl, ?_⟩
      rfl

end Bits
