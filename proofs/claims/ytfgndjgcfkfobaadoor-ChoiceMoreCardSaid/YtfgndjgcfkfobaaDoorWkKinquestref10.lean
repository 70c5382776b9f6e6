/- That the functions of a package do what their plain functions say. -/
import Derived.Test.YtfgndjgcfkfobaaDoorSh
import Derived.Test.YtfgndjgcfkfobaaDoorWkKFacts
open Go Go.Av Go.Proofs
set_option linter.unusedVariables false
set_option maxHeartbeats 8000000
set_option maxRecDepth 20000
namespace Wk
theorem inquestref10_In_ok0 {W0 : World} (hT : Tab W0) {i_0 : Int} {r : Bool} (h : G.inquestref10_In i_0 = some r) : Fun2 Tryd.prog W0 81 [i64 i_0] (bl r) .empty := by
 refine fun2_of_awp Tryd.func81 rfl (by kernel_rfl) Tryd.ntmps81 (by simp) ?_
 unfold G.inquestref10_In at h
 show AWP _ _ _ _ ⟨[(0, i64 i_0)], .empty⟩ _
 refine awp_seqK fun K1 hK1 => awp_reg rfl <| AR.op rfl (aop_move (.inr rfl) rfl) <| AR.nil <| hK1 _ (AWP.weak (Weak.kt [0] rfl) ?_)
 refine awp_seqK fun K2 hK2 => awp_reg rfl <| AR.op rfl (aop_move (.inl rfl) rfl) <| AR.op rfl (aop_geq rfl rfl rfl) <| AR.op rfl (aop_move (.inl rfl) rfl) <| AR.keep [0, 5] rfl ?_
 rcases Bool.eq_false_or_eq_true (decide ((0 : Int) ≤ i_0)) with hb4 | hb4
 ·rw [hb4]
  replace h := Sh.if_t h hb4
  refine AR.op rfl (aop_move (.inl rfl) rfl) <| AR.op rfl (aop_leq rfl rfl rfl) <| AR.op rfl (aop_pick rfl rfl rfl) <| AR.keep [8] rfl <| AR.op rfl (aop_move (.inr rfl) rfl) <| AR.nil <| hK2 _ (AWP.weak (Weak.kt [2] rfl) ?_)
  refine awp_ret ?_
  obtain rfl := Option.some.inj h
  refine ⟨.inr rfl, bl (decide (i_0 ≤ 63)), rfl, ?_⟩
  exact Weak.e ⟨.k, trivial⟩
 ·rw [hb4]
  replace h := Sh.if_f h hb4
  refine AR.skip rfl <| AR.skip rfl <| AR.op rfl (aop_pick rfl rfl rfl) <| AR.keep [8] rfl <| AR.op rfl (aop_move (.inr rfl) rfl) <| AR.nil <| hK2 _ (AWP.weak (Weak.kt [2] rfl) ?_)
  refine awp_ret ?_
  obtain rfl := Option.some.inj h
  refine ⟨.inr rfl, bl false, rfl, ?_⟩
  exact Weak.e ⟨.k, trivial⟩
theorem inquestref10_In_ok {W0 : World} (hT : Tab W0) {i_0 : Int} {r : Bool} (h : G.inquestref10_In i_0 = some r) : Fun1 Tryd.prog W0 81 [i64 i_0] (bl r) := Fun1.two (inquestref10_In_ok0 hT h) (by simp)


theorem inquestref10_Power_ok0 {W0 : World} (hT : Tab W0) {i_0 : Int} {r : (BitVec 64)} (h : G.inquestref10_Power i_0 = some r) : Fun2 Tryd.prog W0 82 [i64 i_0] (u64 r) .empty := by
 refine fun2_of_awp Tryd.func82 rfl (by kernel_rfl) Tryd.ntmps82 (by simp) ?_
 unfold G.inquestref10_Power at h
 show AWP _ _ _ _ ⟨[(0, i64 i_0)], .empty⟩ _
 refine awp_seqK fun K1 hK1 => awp_reg rfl <| AR.op rfl (aop_move (.inr rfl) rfl) <| AR.nil <| hK1 _ (AWP.weak (Weak.kt [0] rfl) ?_)
 refine awp_seqK fun K2 hK2 => awp_reg rfl <| AR.op rfl (aop_move (.inr rfl) rfl) <| AR.nil <| hK2 _ ?_
 refine awp_seqJ (fun (p : (BitVec 64)) => (⟨[(3, u64 p)], .empty⟩ : St)) (fun (p : (BitVec 64)) => G.inquestref10_Power_j1 p = some r) ?_ ?_
 ·rintro n9 h
  replace h : G.inquestref10_Power_j1 n9 = some r := h
  unfold G.inquestref10_Power_j1 at h
  show AWP _ _ _ _ ⟨[(3, u64 n9)], .empty⟩ _
  refine awp_seqK fun K3 hK3 => awp_reg rfl <| AR.op rfl (aop_move (.inl rfl) rfl) <| AR.op rfl (aop_move (.inr rfl) rfl) <| AR.nil <| hK3 _ (AWP.weak (Weak.kt [2] rfl) ?_)
  refine awp_ret ?_
  obtain rfl := Option.some.inj h
  refine ⟨.inr rfl, u64 n9, rfl, ?_⟩
  exact Weak.e ⟨.k, trivial⟩
 ·intro K4 hK4
  refine awp_seqK fun K5 hK5 => awp_reg rfl <| AR.op rfl (aop_move (.inr rfl) rfl) <| AR.nil <| hK5 _ ?_
  refine awp_block <| awp_iter (fun (p : (BitVec 64) × Int) => G.inquestref10_Power_b1 i_0 p.1 p.2) (fun (p : (BitVec 64) × Int) => (⟨[(0, i64 i_0), (3, u64 p.1), (4, i64 p.2)], .empty⟩ : St)) h (Weak.kt [0, 3, 4] rfl) ?_
  ·skip
   rintro ⟨n12, k13⟩ o1 h hx1
   replace h : G.inquestref10_Power_b1 i_0 n12 k13 = some o1 := h
   unfold G.inquestref10_Power_b1 at h
   show AWP _ _ _ _ ⟨[(0, i64 i_0), (3, u64 n12), (4, i64 k13)], .empty⟩ _
   refine awp_seqK fun K6 hK6 => awp_seqK fun K7 hK7 => awp_reg rfl <| AR.op rfl (aop_move (.inl rfl) rfl) <| AR.op rfl (aop_move (.inl rfl) rfl) <| AR.op rfl (aop_lss rfl rfl rfl) <| AR.nil <| hK7 _ (AWP.weak (Weak.kt [0, 3, 4, 7] rfl) ?_)
   refine awp_cond rfl (fun hb14 => ?_) (fun hb14 => ?_)
   ·replace h := Sh.if_t h hb14
    refine awp_skip <| hK6 _ (AWP.weak (Weak.kt [0, 3, 4] rfl) ?_)
    refine awp_seqK fun K8 hK8 => awp_block <| awp_reg rfl <| AR.op rfl (aop_move (.inl rfl) rfl) <| AR.op rfl (aop_move (.inl rfl) rfl) <| AR.op (r := u64 (n12 + n12)) rfl (aop_add64 (a := n12) (b := n12) rfl rfl rfl) <| AR.keep [0, 4, 12] rfl <| AR.op rfl (aop_move (.inr rfl) rfl) ?_
    refine AR.nil <| hK8 _ (AWP.weak (Weak.kt [0, 4, 3] rfl) ?_)
    refine awp_reg rfl <| AR.op rfl (aop_move (.inl rfl) rfl) <| AR.op rfl (aop_add rfl rfl rfl rfl) <| AR.op rfl (aop_move (.inr rfl) rfl) <| AR.nil ?_
    replace h := Sh.next_eq h
    exact ⟨_, h, Weak.e (fr' := [(0, i64 i_0), (3, u64 (n12 + n12)), (4, i64 (w64 (k13 + 1)))]) (H' := .empty) ⟨.k, .k, .k, trivial⟩⟩
   ·replace h := Sh.if_f h hb14
    refine awp_exit ?_
    replace h := Sh.exit_eq h hx1
    exact hK4 n12 _ h (Weak.kt [3] rfl)
theorem inquestref10_Power_ok {W0 : World} (hT : Tab W0) {i_0 : Int} {r : (BitVec 64)} (h : G.inquestref10_Power i_0 = some r) : Fun1 Tryd.prog W0 82 [i64 i_0] (u64 r) := Fun1.two (inquestref10_Power_ok0 hT h) (by simp)


theorem inquestref10_Has_ok0 {W0 : World} (hT : Tab W0) {s_0 : BitVec 64} {i_1 : Int} {r : Bool} (h : G.inquestref10_Has s_0 i_1 = some r) : Fun2 Tryd.prog W0 70 [u64 s_0, i64 i_1] (bl r) .empty := by
 refine fun2_of_awp Tryd.func70 rfl (by kernel_rfl) Tryd.ntmps70 (by simp) ?_
 unfold G.inquestref10_Has at h
 show AWP _ _ _ _ ⟨[(0, u64 s_0), (1, i64 i_1)], .empty⟩ _
 refine awp_seqK fun K1 hK1 => awp_reg rfl <| AR.op rfl (aop_move (.inr rfl) rfl) <| AR.nil <| hK1 _ (AWP.weak (Weak.kt [0, 1] rfl) ?_)
 refine awp_seqK fun K2 hK2 => awp_seqK fun K3 hK3 => awp_reg rfl <| AR.op rfl (aop_move (.inl rfl) rfl) ?_
 obtain ⟨r7, hr7, h⟩ := Sh.bind_some' h
 refine AR.op (r := bl r7) rfl (aop_call1 rfl rfl (by simp) (inquestref10_In_ok hT hr7)) <| AR.op (r := bl (!r7)) rfl (aop_not rfl rfl) <| AR.nil <| hK3 _ (AWP.weak (Weak.kt [0, 1, 7] rfl) ?_)
 refine awp_cond rfl (fun hb8 => ?_) (fun hb8 => ?_)
 ·replace h := Sh.if_t h hb8
  refine awp_seqK fun K4 hK4 => awp_reg rfl <| AR.op rfl (aop_move (.inr rfl) rfl) <| AR.nil <| hK4 _ (AWP.weak (Weak.kt [4] rfl) ?_)
  refine awp_ret ?_
  obtain rfl := Option.some.inj h
  refine ⟨.inr rfl, bl false, rfl, ?_⟩
  exact Weak.e ⟨.k, trivial⟩
 ·replace h := Sh.if_f h hb8
  refine awp_skip <| hK2 _ (AWP.weak (Weak.kt [0, 1] rfl) ?_)
  refine awp_seqK fun K5 hK5 => awp_reg rfl <| AR.op rfl (aop_move (.inl rfl) rfl) <| AR.op rfl (aop_move (.inl rfl) rfl) ?_
  obtain ⟨r12, hr12, h⟩ := Sh.bind_some' h
  refine AR.op (r := u64 r12) rfl (aop_call1 rfl rfl (by simp) (inquestref10_Power_ok hT hr12)) <| AR.keep [8, 10] rfl ?_
  obtain ⟨q13, hq13, h⟩ := Sh.bind_some' h
  refine AR.op (r := u64 q13) rfl (t_udiv hq13 rfl rfl rfl) ?_
  obtain ⟨q14, hq14, h⟩ := Sh.bind_some' h
  refine AR.op (r := u64 q14) rfl (t_umod hq14 rfl rfl rfl) <| AR.op (r := bl (decide (q14 = 1#64))) rfl (aop_eql64 (a := q14) (b := 1#64) rfl rfl rfl) <| AR.keep [13] rfl <| AR.op rfl (aop_move (.inr rfl) rfl) <| AR.nil <| hK5 _ (AWP.weak (Weak.kt [4] rfl) ?_)
  refine awp_ret ?_
  obtain rfl := Option.some.inj h
  refine ⟨.inr rfl, bl (decide (q14 = 1#64)), rfl, ?_⟩
  exact Weak.e ⟨.k, trivial⟩
theorem inquestref10_Has_ok {W0 : World} (hT : Tab W0) {s_0 : BitVec 64} {i_1 : Int} {r : Bool} (h : G.inquestref10_Has s_0 i_1 = some r) : Fun1 Tryd.prog W0 70 [u64 s_0, i64 i_1] (bl r) := Fun1.two (inquestref10_Has_ok0 hT h) (by simp)


theorem inquestref10_List_own {W0 : World} (hT : Tab W0) {s_0 : BitVec 64} {r : (List Int)} (h : G.inquestref10_List s_0 = some r) : Fun2 Tryd.prog W0 69 [u64 s_0] (.view 0 0 (List.map i64 r).length) ⟨1, [(0, (1, List.map i64 r))], []⟩ := by
 refine fun2_of_awp Tryd.func69 rfl (by kernel_rfl) Tryd.ntmps69 (by simp) ?_
 unfold G.inquestref10_List at h
 show AWP _ _ _ _ ⟨[(0, u64 s_0)], .empty⟩ _
 refine awp_seqK fun K1 hK1 => awp_reg rfl <| AR.op rfl (aop_move (.inr rfl) rfl) <| AR.nil <| hK1 _ (AWP.weak (Weak.kt [0] rfl) ?_)
 refine awp_seqK fun K2 hK2 => awp_reg rfl <| AR.op rfl (aop_move (.inr rfl) rfl) <| AR.nil <| hK2 _ ?_
 refine awp_seqJ (fun (p : (List Int)) => (⟨[(3, .view 0 0 (List.map i64 p).length)], ⟨1, [(0, (1, List.map i64 p))], []⟩⟩ : St)) (fun (p : (List Int)) => G.inquestref10_List_j1 p = some r) ?_ ?_
 ·rintro out27 h
  replace h : G.inquestref10_List_j1 out27 = some r := h
  unfold G.inquestref10_List_j1 at h
  show AWP _ _ _ _ ⟨[(3, .view 0 0 (List.map i64 out27).length)], ⟨1, [(0, (1, List.map i64 out27))], []⟩⟩ _
  refine awp_seqK fun K3 hK3 => awp_reg rfl <| AR.op rfl (aop_move (.inl rfl) rfl) <| AR.op rfl (aop_move (.inr rfl) rfl) <| AR.nil <| hK3 _ (AWP.weak (Weak.re (fr' := [(2, .view 0 0 (List.map i64 out27).length)]) (H' := ⟨1, [(0, (1, List.map i64 out27))], []⟩) [(0, 0)] [] rfl rfl rfl (.cons rfl rfl (.same (by simp)) dt trivial) ⟨⟨_, rfl, .view rfl⟩, trivial⟩) ?_)
  refine awp_ret ?_
  obtain rfl := Option.some.inj h
  refine ⟨.inr rfl, .view 0 0 (List.map i64 out27).length, rfl, ?_⟩
  exact Weak.re [(0, 0)] [] rfl rfl rfl (.cons rfl rfl (.same (by simp)) dt trivial) ⟨⟨_, rfl, .view rfl⟩, trivial⟩
 ·intro K4 hK4
  refine awp_seqK fun K5 hK5 => awp_reg rfl <| AR.op rfl (aop_move (.inr rfl) rfl) <| AR.nil <| hK5 _ ?_
  refine awp_block <| awp_iter (fun (p : (List Int) × Int) => G.inquestref10_List_b1 s_0 p.1 p.2) (fun (p : (List Int) × Int) => (⟨[(0, u64 s_0), (3, .view 0 0 (List.map i64 p.1).length), (4, i64 p.2)], ⟨1, [(0, (1, List.map i64 p.1))], []⟩⟩ : St)) h (Weak.re (fr' := [(0, u64 s_0), (3, .view 0 0 (List.map i64 []).length), (4, i64 0)]) (H' := ⟨1, [(0, (1, List.map i64 []))], []⟩) [] [0] rfl rfl rfl (.fresh (by simp) dt trivial) ⟨.k, ⟨_, rfl, .nil (by simp)⟩, .k, trivial⟩) ?_
  ·skip
   rintro ⟨out36, i37⟩ o1 h hx1
   replace h : G.inquestref10_List_b1 s_0 out36 i37 = some o1 := h
   unfold G.inquestref10_List_b1 at h
   show AWP _ _ _ _ ⟨[(0, u64 s_0), (3, .view 0 0 (List.map i64 out36).length), (4, i64 i37)], ⟨1, [(0, (1, List.map i64 out36))], []⟩⟩ _
   refine awp_seqK fun K6 hK6 => awp_seqK fun K7 hK7 => awp_reg rfl <| AR.op rfl (aop_move (.inl rfl) rfl) <| AR.op rfl (aop_lss rfl rfl rfl) <| AR.nil <| hK7 _ (AWP.weak (Weak.re (fr' := [(0, u64 s_0), (3, .view 0 0 (List.map i64 out36).length), (4, i64 i37), (7, bl (decide (i37 < 64)))]) (H' := ⟨1, [(0, (1, List.map i64 out36))], []⟩) [(0, 0)] [] rfl rfl rfl (.cons rfl rfl (.same (by simp)) dt trivial) ⟨.k, ⟨_, rfl, .view rfl⟩, .k, .k, trivial⟩) ?_)
   refine awp_cond rfl (fun hb38 => ?_) (fun hb38 => ?_)
   ·replace h := Sh.if_t h hb38
    refine awp_skip <| hK6 _ (AWP.weak (Weak.re (fr' := [(0, u64 s_0), (3, .view 0 0 (List.map i64 out36).length), (4, i64 i37)]) (H' := ⟨1, [(0, (1, List.map i64 out36))], []⟩) [(0, 0)] [] rfl rfl rfl (.cons rfl rfl (.same (by simp)) dt trivial) ⟨.k, ⟨_, rfl, .view rfl⟩, .k, trivial⟩) ?_)
    refine awp_seqJ (fun (p : (List Int)) => (⟨[(0, u64 s_0), (4, i64 i37), (3, .view 0 0 (List.map i64 p).length)], ⟨1, [(0, (1, List.map i64 p))], []⟩⟩ : St)) (fun (p : (List Int)) => G.inquestref10_List_j2 i37 p = some o1) ?_ ?_
    ·rintro out41 h
     replace h : G.inquestref10_List_j2 i37 out41 = some o1 := h
     unfold G.inquestref10_List_j2 at h
     show AWP _ _ _ _ ⟨[(0, u64 s_0), (4, i64 i37), (3, .view 0 0 (List.map i64 out41).length)], ⟨1, [(0, (1, List.map i64 out41))], []⟩⟩ _
     refine awp_reg rfl <| AR.op rfl (aop_move (.inl rfl) rfl) <| AR.op rfl (aop_add rfl rfl rfl rfl) <| AR.op rfl (aop_move (.inr rfl) rfl) <| AR.nil ?_
     replace h := Sh.next_eq h
     exact ⟨_, h, Weak.re (fr' := [(0, u64 s_0), (3, .view 0 0 (List.map i64 out41).length), (4, i64 (w64 (i37 + 1)))]) (H' := ⟨1, [(0, (1, List.map i64 out41))], []⟩) [(0, 0)] [] rfl rfl rfl (.cons rfl rfl (.same (by simp)) dt trivial) ⟨.k, ⟨_, rfl, .view rfl⟩, .k, trivial⟩⟩
    ·intro K8 hK8
     refine awp_block <| awp_seqK fun K9 hK9 => awp_reg rfl <| AR.op rfl (aop_move (.inl rfl) rfl) <| AR.op rfl (aop_move (.inl rfl) rfl) ?_
     obtain ⟨r43, hr43, h⟩ := Sh.bind_some' h
     refine AR.op (r := bl r43) rfl (aop_call1 rfl rfl (by simp) (inquestref10_Has_ok hT hr43)) <| AR.keep [0, 3, 4, 12] rfl <| AR.op rfl (aop_move (.inr rfl) rfl) <| AR.nil <| hK9 _ (AWP.weak (Weak.re (fr' := [(0, u64 s_0), (3, .view 0 0 (List.map i64 out36).length), (4, i64 i37), (5, bl r43)]) (H' := ⟨1, [(0, (1, List.map i64 out36))], []⟩) [(0, 0)] [] rfl rfl rfl (.cons rfl rfl (.same (by simp)) dt trivial) ⟨.k, ⟨_, rfl, .view rfl⟩, .k, .k, trivial⟩) ?_)
     refine awp_seqK fun K10 hK10 => awp_reg rfl <| AR.op rfl (aop_move (.inl rfl) rfl) <| AR.nil <| hK10 _ (AWP.weak (Weak.re (fr' := [(0, u64 s_0), (3, .view 0 0 (List.map i64 out36).length), (4, i64 i37), (13, bl r43)]) (H' := ⟨1, [(0, (1, List.map i64 out36))], []⟩) [(0, 0)] [] rfl rfl rfl (.cons rfl rfl (.same (by simp)) dt trivial) ⟨.k, ⟨_, rfl, .view rfl⟩, .k, .k, trivial⟩) ?_)
     refine awp_cond rfl (fun hb44 => ?_) (fun hb44 => ?_)
     ·replace h := Sh.if_t h hb44
      refine awp_reg rfl <| AR.op rfl (aop_move (.inl rfl) rfl) <| AR.op rfl (aop_move (.inl rfl) rfl) <| AR.op (r := .clip (List.map i64 [i37])) rfl (aop_buildSlice rfl (xo := [.tmp 15]) rfl rfl rfl (by simp [AV.solid]) (by simp [AV.flat]) el37 ze37 (by decide)) <| AR.keep [0, 4, 14, 16] rfl ?_
      obtain ⟨out45, hout45, h⟩ := Sh.bind_some' h
      refine AR.op (r := .view 1 0 (List.map i64 out45).length) rfl (t_app_view i64 out36 [i37] out45 hout45 rfl et37 (fun _ => rfl) rfl rfl rfl rfl rfl rfl rfl) <| AR.op rfl (aop_move (.inr rfl) rfl) <| AR.nil ?_
      exact hK8 out45 _ h (Weak.re (fr' := [(0, u64 s_0), (4, i64 i37), (3, .view 0 0 (List.map i64 out45).length)]) (H' := ⟨1, [(0, (1, List.map i64 out45))], []⟩) [(0, 1)] [] rfl rfl rfl (.cons rfl rfl (.same (by simp)) dt trivial) ⟨.k, .k, ⟨_, rfl, .view rfl⟩, trivial⟩)
     ·replace h := Sh.if_f h hb44
      refine awp_skip ?_
      exact hK8 out36 _ h (Weak.re (fr' := [(0, u64 s_0), (4, i64 i37), (3, .view 0 0 (List.map i64 out36).length)]) (H' := ⟨1, [(0, (1, List.map i64 out36))], []⟩) [(0, 0)] [] rfl rfl rfl (.cons rfl rfl (.same (by simp)) dt trivial) ⟨.k, .k, ⟨_, rfl, .view rfl⟩, trivial⟩)
   ·replace h := Sh.if_f h hb38
    refine awp_exit ?_
    replace h := Sh.exit_eq h hx1
    exact hK4 out36 _ h (Weak.re (fr' := [(3, .view 0 0 (List.map i64 out36).length)]) (H' := ⟨1, [(0, (1, List.map i64 out36))], []⟩) [(0, 0)] [] rfl rfl rfl (.cons rfl rfl (.same (by simp)) dt trivial) ⟨⟨_, rfl, .view rfl⟩, trivial⟩)
theorem inquestref10_List_ok {W0 : World} (hT : Tab W0) {s_0 : BitVec 64} {r : (List Int)} (h : G.inquestref10_List s_0 = some r) : Fun1 Tryd.prog W0 69 [u64 s_0] (.sl (List.map i64 r)) :=
 (inquestref10_List_own hT h).give (Weak.e ⟨⟨_, rfl, .lendAll rfl rfl (by simp)⟩, trivial⟩) (by simp)


theorem inquestref10_Sub_ok0 {W0 : World} (hT : Tab W0) {a_0 : BitVec 64} {b_1 : BitVec 64} {r : Bool} (h : G.inquestref10_Sub a_0 b_1 = some r) : Fun2 Tryd.prog W0 36 [u64 a_0, u64 b_1] (bl r) .empty := by
 refine fun2_of_awp Tryd.func36 rfl (by kernel_rfl) Tryd.ntmps36 (by simp) ?_
 unfold G.inquestref10_Sub at h
 show AWP _ _ _ _ ⟨[(0, u64 a_0), (1, u64 b_1)], .empty⟩ _
 refine awp_seqK fun K1 hK1 => awp_reg rfl <| AR.op rfl (aop_move (.inr rfl) rfl) <| AR.nil <| hK1 _ (AWP.weak (Weak.kt [0, 1] rfl) ?_)
 refine awp_seqK fun K2 hK2 => awp_reg rfl <| AR.op rfl (aop_move (.inl rfl) rfl) ?_
 obtain ⟨r14, hr14, h⟩ := Sh.bind_some' h
 refine AR.op (r := .sl (List.map i64 r14)) rfl (aop_call1 rfl rfl (by simp) (inquestref10_List_ok hT hr14)) <| AR.op rfl (aop_move (.inr rfl) rfl) <| AR.nil <| hK2 _ (AWP.weak (Weak.kt [1, 5] rfl) ?_)
 refine awp_seqJ (fun (p : Unit) => (⟨[], .empty⟩ : St)) (fun (p : Unit) => G.inquestref10_Sub_j1 = some r) ?_ ?_
 ·rintro ⟨⟩ h
  replace h : G.inquestref10_Sub_j1 = some r := h
  unfold G.inquestref10_Sub_j1 at h
  show AWP _ _ _ _ ⟨[], .empty⟩ _
  refine awp_seqK fun K3 hK3 => awp_reg rfl <| AR.op rfl (aop_move (.inr rfl) rfl) <| AR.nil <| hK3 _ ?_
  refine awp_ret ?_
  obtain rfl := Option.some.inj h
  refine ⟨.inr rfl, bl true, rfl, ?_⟩
  exact Weak.e ⟨.k, trivial⟩
 ·intro K4 hK4
  refine awp_seqK fun K5 hK5 => awp_reg rfl <| AR.op rfl (aop_move (.inr rfl) rfl) <| AR.nil <| hK5 _ ?_
  refine awp_block <| awp_iter (fun (p : Int) => G.inquestref10_Sub_b1 b_1 r14 p) (fun (p : Int) => (⟨[(1, u64 b_1), (5, .sl (List.map i64 r14)), (6, i64 p)], .empty⟩ : St)) h (Weak.kt [1, 5, 6] rfl) ?_
  ·skip
   rintro i33 o1 h hx1
   replace h : G.inquestref10_Sub_b1 b_1 r14 i33 = some o1 := h
   unfold G.inquestref10_Sub_b1 at h
   show AWP _ _ _ _ ⟨[(1, u64 b_1), (5, .sl (List.map i64 r14)), (6, i64 i33)], .empty⟩ _
   refine awp_seqK fun K6 hK6 => awp_seqK fun K7 hK7 => awp_reg rfl <| AR.op rfl (aop_move (.inl rfl) rfl) <| AR.op rfl (aop_move (.inl rfl) rfl) <| AR.op rfl (t_len_sl i64 r14 rfl rfl el37) <| AR.keep [1, 5, 6, 10, 12] rfl <| AR.op rfl (aop_lss rfl rfl rfl) ?_
   refine AR.nil <| hK7 _ (AWP.weak (Weak.kt [1, 5, 6, 13] rfl) ?_)
   refine awp_cond rfl (fun hb34 => ?_) (fun hb34 => ?_)
   ·replace h := Sh.if_t h hb34
    refine awp_skip <| hK6 _ (AWP.weak (Weak.kt [1, 5, 6] rfl) ?_)
    refine awp_seqK fun K8 hK8 => awp_block <| awp_seqK fun K9 hK9 => awp_reg rfl <| AR.op rfl (aop_move (.inl rfl) rfl) <| AR.op rfl (aop_move (.inl rfl) rfl) <| AR.op rfl (aop_move (.inl rfl) rfl) <| AR.keep [1, 5, 6, 16, 17, 18] rfl ?_
    obtain ⟨x41, hx41, h⟩ := Sh.bind_some' h
    obtain ⟨k42, hi42, hl42⟩ := Sh.idx_some hx41
    refine AR.op rfl (t_index_sl i64 r14 hi42 hl42 rfl rfl rfl el37 rfl) <| AR.op (r := i64 x41) rfl (aop_load_pp rfl rfl sz3 rfl) ?_
    obtain ⟨r43, hr43, h⟩ := Sh.bind_some' h
    refine AR.op (r := bl r43) rfl (aop_call1 rfl rfl (by simp) (inquestref10_Has_ok hT hr43)) <| AR.keep [1, 5, 6, 21] rfl <| AR.op rfl (aop_move (.inr rfl) rfl) <| AR.nil <| hK9 _ (AWP.weak (Weak.kt [1, 5, 6, 7] rfl) ?_)
    refine awp_seqK fun K10 hK10 => awp_reg rfl <| AR.op rfl (aop_move (.inl rfl) rfl) <| AR.op (r := bl (!r43)) rfl (aop_not rfl rfl) <| AR.nil <| hK10 _ (AWP.weak (Weak.kt [1, 5, 6, 23] rfl) ?_)
    refine awp_cond rfl (fun hb44 => ?_) (fun hb44 => ?_)
    ·replace h := Sh.if_t h hb44
     refine awp_seqK fun K11 hK11 => awp_reg rfl <| AR.op rfl (aop_move (.inr rfl) rfl) <| AR.nil <| hK11 _ (AWP.weak (Weak.kt [4] rfl) ?_)
     refine awp_ret ?_
     replace h := Sh.exit_eq h hx1
     obtain rfl := Option.some.inj h
     refine ⟨.inr rfl, bl false, rfl, ?_⟩
     exact Weak.e ⟨.k, trivial⟩
    ·replace h := Sh.if_f h hb44
     refine awp_skip <| hK8 _ (AWP.weak (Weak.kt [1, 5, 6] rfl) ?_)
     refine awp_reg rfl <| AR.op rfl (aop_move (.inl rfl) rfl) <| AR.op rfl (aop_add rfl rfl rfl rfl) <| AR.op rfl (aop_move (.inr rfl) rfl) <| AR.nil ?_
     replace h := Sh.next_eq h
     exact ⟨_, h, Weak.e (fr' := [(1, u64 b_1), (5, .sl (List.map i64 r14)), (6, i64 (w64 (i33 + 1)))]) (H' := .empty) ⟨.k, ⟨.sl (List.map i64 r14), rfl, .sm⟩, .k, trivial⟩⟩
   ·replace h := Sh.if_f h hb34
    refine awp_exit ?_
    replace h := Sh.exit_eq h hx1
    exact hK4 () _ h (Weak.kt [] rfl)
theorem inquestref10_Sub_ok {W0 : World} (hT : Tab W0) {a_0 : BitVec 64} {b_1 : BitVec 64} {r : Bool} (h : G.inquestref10_Sub a_0 b_1 = some r) : Fun1 Tryd.prog W0 36 [u64 a_0, u64 b_1] (bl r) := Fun1.two (inquestref10_Sub_ok0 hT h) (by simp)

end Wk
