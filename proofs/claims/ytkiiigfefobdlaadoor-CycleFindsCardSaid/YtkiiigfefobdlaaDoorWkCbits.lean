/- That the functions of a package do what their plain functions say. -/
import Derived.Test.YtkiiigfefobdlaaDoorSh
import Derived.Test.YtkiiigfefobdlaaDoorWkCFacts
import Derived.Test.YtkiiigfefobdlaaDoorWkCstdbits
open Go Go.Av Go.Proofs
set_option linter.unusedVariables false
set_option maxHeartbeats 8000000
set_option maxRecDepth 20000
namespace Wk
theorem bits_Join_ok0 {W0 : World} (hT : Tab W0) {l_0 : List (BitVec 64)} {r : (BitVec 64)} (h : G.bits_Join l_0 = some r) : Fun2 Tryd.prog W0 44 [.sl (List.map u64 l_0)] (u64 r) .empty := by
 refine fun2_of_awp Tryd.func44 rfl (by kernel_rfl) Tryd.ntmps44 (by simp) ?_
 unfold G.bits_Join at h
 show AWP _ _ _ _ ⟨[(0, .sl (List.map u64 l_0))], .empty⟩ _
 refine awp_seqK fun K1 hK1 => awp_reg rfl <| AR.op rfl (aop_move (.inr rfl) rfl) <| AR.nil <| hK1 _ (AWP.weak (Weak.kt [0] rfl) ?_)
 refine awp_seqK fun K2 hK2 => awp_reg rfl <| AR.op rfl (aop_move (.inr rfl) rfl) <| AR.nil <| hK2 _ ?_
 refine awp_seqJ (fun (p : (BitVec 64)) => (⟨[(3, u64 p)], .empty⟩ : St)) (fun (p : (BitVec 64)) => G.bits_Join_j1 p = some r) ?_ ?_
 ·rintro out21 h
  replace h : G.bits_Join_j1 out21 = some r := h
  unfold G.bits_Join_j1 at h
  refine awp_seqK fun K3 hK3 => awp_reg rfl <| AR.op rfl (aop_move (.inl rfl) rfl) <| AR.op rfl (aop_move (.inr rfl) rfl) <| AR.nil <| hK3 _ (AWP.weak (Weak.kt [2] rfl) ?_)
  refine awp_ret ?_
  obtain rfl := Option.some.inj h
  refine ⟨.inr rfl, u64 out21, rfl, ?_⟩
  exact Weak.e ⟨.k, trivial⟩
 ·intro K4 hK4
  refine awp_seqK fun K5 hK5 => awp_reg rfl <| AR.op rfl (aop_move (.inl rfl) rfl) <| AR.op rfl (t_len_sl u64 l_0 rfl rfl el22) <| AR.op rfl (aop_move (.inl rfl) rfl) <| AR.nil <| hK5 _ (AWP.weak (Weak.kt [3, 6, 7, 8] rfl) ?_)
  refine awp_block <| awp_iter (fun (p : (BitVec 64) × Int) => G.bits_Join_b1 l_0 p.1 p.2) (fun (p : (BitVec 64) × Int) => (⟨[(3, u64 p.1), (6, .sl (List.map u64 l_0)), (7, i64 (Sh.len l_0)), (8, i64 p.2)], .empty⟩ : St)) h (Weak.kt [3, 6, 7, 8] rfl) ?_
  ·skip
   rintro ⟨out28, v29⟩ o1 h hx1
   replace h : G.bits_Join_b1 l_0 out28 v29 = some o1 := h
   unfold G.bits_Join_b1 at h
   refine awp_seqK fun K6 hK6 => awp_reg rfl <| AR.op rfl (aop_lss rfl rfl rfl) <| AR.nil <| hK6 _ ?_
   refine awp_seqK fun K7 hK7 => awp_cond rfl (fun hb30 => ?_) (fun hb30 => ?_)
   ·replace h := Sh.if_t h hb30
    refine awp_skip <| hK7 _ (AWP.weak (Weak.kt [3, 6, 7, 8] rfl) ?_)
    refine awp_seqK fun K8 hK8 => awp_block <| awp_seqK fun K9 hK9 => awp_reg rfl ?_
    obtain ⟨x35, hx35, h⟩ := Sh.bind_some' h
    obtain ⟨k36, hi36, hl36⟩ := Sh.idx_some hx35
    refine AR.op rfl (t_index_sl u64 l_0 hi36 hl36 rfl rfl rfl el22 rfl) <| AR.op (r := u64 x35) rfl (aop_load_pp rfl rfl sz35 rfl) <| AR.op rfl (aop_move (.inr rfl) rfl) <| AR.nil <| hK9 _ (AWP.weak (Weak.kt [3, 6, 7, 8, 5] rfl) ?_)
    refine awp_reg rfl <| AR.op rfl (aop_move (.inl rfl) rfl) <| AR.op rfl (aop_move (.inl rfl) rfl) <| AR.op (r := u64 (out28 ||| x35)) rfl (aop_or (a := out28) (b := x35) rfl rfl rfl) <| AR.keep [6, 7, 8, 14] rfl <| AR.op rfl (aop_move (.inr rfl) rfl) <| AR.nil <| hK8 _ (AWP.weak (Weak.kt [6, 7, 8, 3] rfl) ?_)
    refine awp_reg rfl <| AR.op rfl (aop_add rfl rfl rfl rfl) <| AR.op rfl (aop_move (.inl rfl) rfl) <| AR.nil ?_
    replace h := Sh.next_eq h
    exact ⟨_, h, Weak.kt [3, 6, 7, 8] rfl⟩
   ·replace h := Sh.if_f h hb30
    refine awp_exit ?_
    replace h := Sh.exit_eq h hx1
    exact hK4 out28 _ h (Weak.kt [3] rfl)
theorem bits_Join_ok {W0 : World} (hT : Tab W0) {l_0 : List (BitVec 64)} {r : (BitVec 64)} (h : G.bits_Join l_0 = some r) : Fun1 Tryd.prog W0 44 [.sl (List.map u64 l_0)] (u64 r) := Fun1.two (bits_Join_ok0 hT h) (by simp)


theorem bits_Sub_ok0 {W0 : World} (hT : Tab W0) {a_0 : BitVec 64} {b_1 : BitVec 64} {r : Bool} (h : G.bits_Sub a_0 b_1 = some r) : Fun2 Tryd.prog W0 54 [u64 a_0, u64 b_1] (bl r) .empty := by
 refine fun2_of_awp Tryd.func54 rfl (by kernel_rfl) Tryd.ntmps54 (by simp) ?_
 unfold G.bits_Sub at h
 show AWP _ _ _ _ ⟨[(0, u64 a_0), (1, u64 b_1)], .empty⟩ _
 refine awp_seqK fun K1 hK1 => awp_reg rfl <| AR.op rfl (aop_move (.inr rfl) rfl) <| AR.nil <| hK1 _ (AWP.weak (Weak.kt [0, 1] rfl) ?_)
 refine awp_seqK fun K2 hK2 => awp_reg rfl <| AR.op rfl (aop_move (.inl rfl) rfl) <| AR.op rfl (aop_move (.inl rfl) rfl) <| AR.op (r := u64 (a_0 &&& ~~~b_1)) rfl (aop_andNot (a := a_0) (b := b_1) rfl rfl rfl) <| AR.keep [7] rfl <| AR.op (r := bl (decide ((a_0 &&& ~~~b_1) = 0#64))) rfl (aop_eql64 (a := a_0 &&& ~~~b_1) (b := 0#64) rfl rfl rfl) <| AR.op rfl (aop_move (.inr rfl) rfl) ?_
 refine AR.nil <| hK2 _ (AWP.weak (Weak.kt [4] rfl) ?_)
 refine awp_ret ?_
 obtain rfl := Option.some.inj h
 refine ⟨.inr rfl, bl (decide ((a_0 &&& ~~~b_1) = 0#64)), rfl, ?_⟩
 exact Weak.e ⟨.k, trivial⟩
theorem bits_Sub_ok {W0 : World} (hT : Tab W0) {a_0 : BitVec 64} {b_1 : BitVec 64} {r : Bool} (h : G.bits_Sub a_0 b_1 = some r) : Fun1 Tryd.prog W0 54 [u64 a_0, u64 b_1] (bl r) := Fun1.two (bits_Sub_ok0 hT h) (by simp)


theorem bits_bit_ok0 {W0 : World} (hT : Tab W0) {i_0 : Int} {r : (BitVec 64)} (h : G.bits_bit i_0 = some r) : Fun2 Tryd.prog W0 60 [i64 i_0] (u64 r) .empty := by
 refine fun2_of_awp Tryd.func60 rfl (by kernel_rfl) Tryd.ntmps60 (by simp) ?_
 unfold G.bits_bit at h
 show AWP _ _ _ _ ⟨[(0, i64 i_0)], .empty⟩ _
 refine awp_seqK fun K1 hK1 => awp_reg rfl <| AR.op rfl (aop_move (.inr rfl) rfl) <| AR.nil <| hK1 _ (AWP.weak (Weak.kt [0] rfl) ?_)
 refine awp_seqK fun K2 hK2 => awp_seqJ (fun (p : Bool) => (⟨[(0, i64 i_0), (8, bl p)], .empty⟩ : St)) (fun (p : Bool) => G.bits_bit_j1 i_0 p = some r) ?_ ?_
 ·rintro v7 h
  replace h : G.bits_bit_j1 i_0 v7 = some r := h
  unfold G.bits_bit_j1 at h
  refine awp_cond rfl (fun hb8 => ?_) (fun hb8 => ?_)
  ·replace h := Sh.if_t h hb8
   refine awp_seqK fun K3 hK3 => awp_reg rfl <| AR.op rfl (aop_move (.inr rfl) rfl) <| AR.nil <| hK3 _ (AWP.weak (Weak.kt [2] rfl) ?_)
   refine awp_ret ?_
   obtain rfl := Option.some.inj h
   refine ⟨.inr rfl, u64 0#64, rfl, ?_⟩
   exact Weak.e ⟨.k, trivial⟩
  ·replace h := Sh.if_f h hb8
   refine awp_skip <| hK2 _ (AWP.weak (Weak.kt [0] rfl) ?_)
   refine awp_seqK fun K4 hK4 => awp_reg rfl <| AR.op rfl (aop_move (.inl rfl) rfl) ?_
   obtain ⟨s10, hs10, h⟩ := Sh.bind_some' h
   refine AR.op (r := u64 s10) rfl (t_shl hs10 rfl rfl rfl) <| AR.op rfl (aop_move (.inr rfl) rfl) <| AR.nil <| hK4 _ (AWP.weak (Weak.kt [2] rfl) ?_)
   refine awp_ret ?_
   obtain rfl := Option.some.inj h
   refine ⟨.inr rfl, u64 s10, rfl, ?_⟩
   exact Weak.e ⟨.k, trivial⟩
 ·intro K5 hK5
  refine awp_reg rfl <| AR.op rfl (aop_move (.inl rfl) rfl) <| AR.op rfl (aop_lss rfl rfl rfl) <| AR.op rfl (aop_move (.inl rfl) rfl) <| AR.keep [0, 5] rfl ?_
  rcases Bool.eq_false_or_eq_true (decide (i_0 < 0)) with hb11 | hb11
  ·rw [hb11]
   replace h := Sh.if_t h hb11
   refine AR.skip rfl <| AR.skip rfl <| AR.op rfl (aop_pick rfl rfl rfl) <| AR.nil ?_
   exact hK5 true _ h (Weak.kt [0, 8] rfl)
  ·rw [hb11]
   replace h := Sh.if_f h hb11
   refine AR.op rfl (aop_move (.inl rfl) rfl) <| AR.op rfl (aop_geq rfl rfl rfl) <| AR.op rfl (aop_pick rfl rfl rfl) <| AR.nil ?_
   exact hK5 (decide ((64 : Int) ≤ i_0)) _ h (Weak.kt [0, 8] rfl)
theorem bits_bit_ok {W0 : World} (hT : Tab W0) {i_0 : Int} {r : (BitVec 64)} (h : G.bits_bit i_0 = some r) : Fun1 Tryd.prog W0 60 [i64 i_0] (u64 r) := Fun1.two (bits_bit_ok0 hT h) (by simp)


theorem bits_Has_ok0 {W0 : World} (hT : Tab W0) {s_0 : BitVec 64} {i_1 : Int} {r : Bool} (h : G.bits_Has s_0 i_1 = some r) : Fun2 Tryd.prog W0 35 [u64 s_0, i64 i_1] (bl r) .empty := by
 refine fun2_of_awp Tryd.func35 rfl (by kernel_rfl) Tryd.ntmps35 (by simp) ?_
 unfold G.bits_Has at h
 show AWP _ _ _ _ ⟨[(0, u64 s_0), (1, i64 i_1)], .empty⟩ _
 refine awp_seqK fun K1 hK1 => awp_reg rfl <| AR.op rfl (aop_move (.inr rfl) rfl) <| AR.nil <| hK1 _ (AWP.weak (Weak.kt [0, 1] rfl) ?_)
 refine awp_seqK fun K2 hK2 => awp_reg rfl <| AR.op rfl (aop_move (.inl rfl) rfl) <| AR.op rfl (aop_move (.inl rfl) rfl) ?_
 obtain ⟨r3, hr3, h⟩ := Sh.bind_some' h
 refine AR.op (r := u64 r3) rfl (aop_call1 rfl rfl (by simp) (bits_bit_ok hT hr3)) <| AR.keep [5, 7] rfl <| AR.op (r := u64 (s_0 &&& r3)) rfl (aop_and (a := s_0) (b := r3) rfl rfl rfl) <| AR.op (r := bl (decide ((s_0 &&& r3) ≠ 0#64))) rfl (aop_neq64 (a := s_0 &&& r3) (b := 0#64) rfl rfl rfl) <| AR.op rfl (aop_move (.inr rfl) rfl) <| AR.nil <| hK2 _ (AWP.weak (Weak.kt [4] rfl) ?_)
 refine awp_ret ?_
 obtain rfl := Option.some.inj h
 refine ⟨.inr rfl, bl (decide ((s_0 &&& r3) ≠ 0#64)), rfl, ?_⟩
 exact Weak.e ⟨.k, trivial⟩
theorem bits_Has_ok {W0 : World} (hT : Tab W0) {s_0 : BitVec 64} {i_1 : Int} {r : Bool} (h : G.bits_Has s_0 i_1 = some r) : Fun1 Tryd.prog W0 35 [u64 s_0, i64 i_1] (bl r) := Fun1.two (bits_Has_ok0 hT h) (by simp)


theorem bits_With_ok0 {W0 : World} (hT : Tab W0) {s_0 : BitVec 64} {i_1 : Int} {r : (BitVec 64)} (h : G.bits_With s_0 i_1 = some r) : Fun2 Tryd.prog W0 36 [u64 s_0, i64 i_1] (u64 r) .empty := by
 refine fun2_of_awp Tryd.func36 rfl (by kernel_rfl) Tryd.ntmps36 (by simp) ?_
 unfold G.bits_With at h
 show AWP _ _ _ _ ⟨[(0, u64 s_0), (1, i64 i_1)], .empty⟩ _
 refine awp_seqK fun K1 hK1 => awp_reg rfl <| AR.op rfl (aop_move (.inr rfl) rfl) <| AR.nil <| hK1 _ (AWP.weak (Weak.kt [0, 1] rfl) ?_)
 refine awp_seqK fun K2 hK2 => awp_reg rfl <| AR.op rfl (aop_move (.inl rfl) rfl) <| AR.op rfl (aop_move (.inl rfl) rfl) ?_
 obtain ⟨r3, hr3, h⟩ := Sh.bind_some' h
 refine AR.op (r := u64 r3) rfl (aop_call1 rfl rfl (by simp) (bits_bit_ok hT hr3)) <| AR.keep [5, 7] rfl <| AR.op (r := u64 (s_0 ||| r3)) rfl (aop_or (a := s_0) (b := r3) rfl rfl rfl) <| AR.op rfl (aop_move (.inr rfl) rfl) <| AR.nil <| hK2 _ (AWP.weak (Weak.kt [4] rfl) ?_)
 refine awp_ret ?_
 obtain rfl := Option.some.inj h
 refine ⟨.inr rfl, u64 (s_0 ||| r3), rfl, ?_⟩
 exact Weak.e ⟨.k, trivial⟩
theorem bits_With_ok {W0 : World} (hT : Tab W0) {s_0 : BitVec 64} {i_1 : Int} {r : (BitVec 64)} (h : G.bits_With s_0 i_1 = some r) : Fun1 Tryd.prog W0 36 [u64 s_0, i64 i_1] (u64 r) := Fun1.two (bits_With_ok0 hT h) (by simp)


theorem bits_List_own {W0 : World} (hT : Tab W0) {s_0 : BitVec 64} {r : (List Int)} (h : G.bits_List s_0 = some r) : Fun2 Tryd.prog W0 40 [u64 s_0] (.view 0 0 (List.map i64 r).length) ⟨1, [(0, (1, List.map i64 r))], []⟩ := by
 refine fun2_of_awp Tryd.func40 rfl (by kernel_rfl) Tryd.ntmps40 (by simp) ?_
 unfold G.bits_List at h
 show AWP _ _ _ _ ⟨[(0, u64 s_0)], .empty⟩ _
 refine awp_seqK fun K1 hK1 => awp_reg rfl <| AR.op rfl (aop_move (.inr rfl) rfl) <| AR.nil <| hK1 _ (AWP.weak (Weak.kt [0] rfl) ?_)
 refine awp_seqK fun K2 hK2 => awp_reg rfl <| AR.op rfl (aop_move (.inr rfl) rfl) <| AR.nil <| hK2 _ ?_
 refine awp_seqJ (fun (p : (List Int)) => (⟨[(3, .view 0 0 (List.map i64 p).length)], ⟨1, [(0, (1, List.map i64 p))], []⟩⟩ : St)) (fun (p : (List Int)) => G.bits_List_j1 p = some r) ?_ ?_
 ·rintro out21 h
  replace h : G.bits_List_j1 out21 = some r := h
  unfold G.bits_List_j1 at h
  refine awp_seqK fun K3 hK3 => awp_reg rfl <| AR.op rfl (aop_move (.inl rfl) rfl) <| AR.op rfl (aop_move (.inr rfl) rfl) <| AR.nil <| hK3 _ (AWP.weak (Weak.kt [2] rfl) ?_)
  refine awp_ret ?_
  obtain rfl := Option.some.inj h
  refine ⟨.inr rfl, .view 0 0 (List.map i64 out21).length, rfl, ?_⟩
  exact Weak.re [(0, 0)] [] rfl rfl rfl (.cons rfl rfl (.same (by simp)) dt trivial) ⟨⟨_, rfl, .view rfl⟩, trivial⟩
 ·intro K4 hK4
  refine awp_block <| awp_iter (fun (p : (BitVec 64) × (List Int)) => G.bits_List_b1 p.1 p.2) (fun (p : (BitVec 64) × (List Int)) => (⟨[(0, u64 p.1), (3, .view 0 0 (List.map i64 p.2).length)], ⟨1, [(0, (1, List.map i64 p.2))], []⟩⟩ : St)) h (Weak.re [] [0] rfl rfl rfl (.fresh (by simp) dt trivial) ⟨.k, ⟨_, rfl, .nil (by simp)⟩, trivial⟩) ?_
  ·skip
   rintro ⟨s28, out29⟩ o1 h hx1
   replace h : G.bits_List_b1 s28 out29 = some o1 := h
   unfold G.bits_List_b1 at h
   refine awp_seqK fun K5 hK5 => awp_seqK fun K6 hK6 => awp_reg rfl <| AR.op rfl (aop_move (.inl rfl) rfl) <| AR.op (r := bl (decide (s28 ≠ 0#64))) rfl (aop_neq64 (a := s28) (b := 0#64) rfl rfl rfl) <| AR.nil <| hK6 _ (AWP.weak (Weak.kt [0, 3, 5] rfl) ?_)
   refine awp_cond rfl (fun hb30 => ?_) (fun hb30 => ?_)
   ·replace h := Sh.if_t h hb30
    refine awp_skip <| hK5 _ (AWP.weak (Weak.kt [0, 3] rfl) ?_)
    refine awp_seqK fun K7 hK7 => awp_block <| awp_reg rfl <| AR.op rfl (aop_move (.inl rfl) rfl) <| AR.op rfl (aop_move (.inl rfl) rfl) ?_
    obtain ⟨r33, hr33, h⟩ := Sh.bind_some' h
    refine AR.op (r := i64 r33) rfl (aop_call1 rfl rfl (by simp) (bits_TrailingZeros64_ok hT hr33)) <| AR.keep [0, 10, 12] rfl <| AR.op (r := .clip (List.map i64 [r33])) rfl (aop_buildSlice rfl (xo := [.tmp 12]) rfl rfl rfl (by simp [AV.solid]) (by simp [AV.flat]) el25 ze25 (by decide)) ?_
    obtain ⟨out34, hout34, h⟩ := Sh.bind_some' h
    refine AR.op (r := .view 1 0 (List.map i64 out34).length) rfl (t_app_view i64 out29 [r33] out34 hout34 rfl et25 (fun _ => rfl) rfl rfl rfl rfl rfl rfl rfl) <| AR.op rfl (aop_move (.inr rfl) rfl) <| AR.nil <| hK7 _ (AWP.weak (Weak.re (fr' := [(0, u64 s28), (3, .view 0 0 (List.map i64 out34).length)]) (H' := ⟨1, [(0, (1, List.map i64 out34))], []⟩) [(0, 1)] [] rfl rfl rfl (.cons rfl rfl (.same (by simp)) dt trivial) ⟨.k, ⟨_, rfl, .view rfl⟩, trivial⟩) ?_)
    refine awp_reg rfl <| AR.op rfl (aop_move (.inl rfl) rfl) <| AR.op rfl (aop_move (.inl rfl) rfl) <| AR.op (r := u64 (s28 - 1#64)) rfl (aop_sub64 (a := s28) (b := 1#64) rfl rfl rfl) <| AR.keep [3, 6, 8] rfl <| AR.op (r := u64 (s28 &&& (s28 - 1#64))) rfl (aop_and (a := s28) (b := s28 - 1#64) rfl rfl rfl) <| AR.op rfl (aop_move (.inr rfl) rfl) <| AR.nil ?_
    replace h := Sh.next_eq h
    exact ⟨_, h, Weak.kt [0, 3] rfl⟩
   ·replace h := Sh.if_f h hb30
    refine awp_exit ?_
    replace h := Sh.exit_eq h hx1
    exact hK4 out29 _ h (Weak.kt [3] rfl)
theorem bits_List_ok {W0 : World} (hT : Tab W0) {s_0 : BitVec 64} {r : (List Int)} (h : G.bits_List s_0 = some r) : Fun1 Tryd.prog W0 40 [u64 s_0] (.sl (List.map i64 r)) :=
 (bits_List_own hT h).give (Weak.e ⟨⟨_, rfl, .lendAll rfl rfl (by simp)⟩, trivial⟩) (by simp)


theorem bits_Least_ok0 {W0 : World} (hT : Tab W0) {s_0 : BitVec 64} {r : Int} (h : G.bits_Least s_0 = some r) : Fun2 Tryd.prog W0 66 [u64 s_0] (i64 r) .empty := by
 refine fun2_of_awp Tryd.func66 rfl (by kernel_rfl) Tryd.ntmps66 (by simp) ?_
 unfold G.bits_Least at h
 show AWP _ _ _ _ ⟨[(0, u64 s_0)], .empty⟩ _
 refine awp_seqK fun K1 hK1 => awp_reg rfl <| AR.op rfl (aop_move (.inr rfl) rfl) <| AR.nil <| hK1 _ (AWP.weak (Weak.kt [0] rfl) ?_)
 refine awp_seqK fun K2 hK2 => awp_seqK fun K3 hK3 => awp_reg rfl <| AR.op rfl (aop_move (.inl rfl) rfl) <| AR.op (r := bl (decide (s_0 = 0#64))) rfl (aop_eql64 (a := s_0) (b := 0#64) rfl rfl rfl) <| AR.nil <| hK3 _ (AWP.weak (Weak.kt [0, 4] rfl) ?_)
 refine awp_cond rfl (fun hb2 => ?_) (fun hb2 => ?_)
 ·replace h := Sh.if_t h hb2
  refine awp_seqK fun K4 hK4 => awp_reg rfl <| AR.op rfl (aop_move (.inr rfl) rfl) <| AR.nil <| hK4 _ (AWP.weak (Weak.kt [2] rfl) ?_)
  refine awp_ret ?_
  obtain rfl := Option.some.inj h
  refine ⟨.inr rfl, i64 (-1), rfl, ?_⟩
  exact Weak.e ⟨.k, trivial⟩
 ·replace h := Sh.if_f h hb2
  refine awp_skip <| hK2 _ (AWP.weak (Weak.kt [0] rfl) ?_)
  refine awp_seqK fun K5 hK5 => awp_reg rfl <| AR.op rfl (aop_move (.inl rfl) rfl) ?_
  obtain ⟨r4, hr4, h⟩ := Sh.bind_some' h
  refine AR.op (r := i64 r4) rfl (aop_call1 rfl rfl (by simp) (bits_TrailingZeros64_ok hT hr4)) <| AR.op rfl (aop_move (.inr rfl) rfl) <| AR.nil <| hK5 _ (AWP.weak (Weak.kt [2] rfl) ?_)
  refine awp_ret ?_
  obtain rfl := Option.some.inj h
  refine ⟨.inr rfl, i64 r4, rfl, ?_⟩
  exact Weak.e ⟨.k, trivial⟩
theorem bits_Least_ok {W0 : World} (hT : Tab W0) {s_0 : BitVec 64} {r : Int} (h : G.bits_Least s_0 = some r) : Fun1 Tryd.prog W0 66 [u64 s_0] (i64 r) := Fun1.two (bits_Least_ok0 hT h) (by simp)


theorem bits_Without_ok0 {W0 : World} (hT : Tab W0) {s_0 : BitVec 64} {i_1 : Int} {r : (BitVec 64)} (h : G.bits_Without s_0 i_1 = some r) : Fun2 Tryd.prog W0 67 [u64 s_0, i64 i_1] (u64 r) .empty := by
 refine fun2_of_awp Tryd.func67 rfl (by kernel_rfl) Tryd.ntmps67 (by simp) ?_
 unfold G.bits_Without at h
 show AWP _ _ _ _ ⟨[(0, u64 s_0), (1, i64 i_1)], .empty⟩ _
 refine awp_seqK fun K1 hK1 => awp_reg rfl <| AR.op rfl (aop_move (.inr rfl) rfl) <| AR.nil <| hK1 _ (AWP.weak (Weak.kt [0, 1] rfl) ?_)
 refine awp_seqK fun K2 hK2 => awp_reg rfl <| AR.op rfl (aop_move (.inl rfl) rfl) <| AR.op rfl (aop_move (.inl rfl) rfl) ?_
 obtain ⟨r3, hr3, h⟩ := Sh.bind_some' h
 refine AR.op (r := u64 r3) rfl (aop_call1 rfl rfl (by simp) (bits_bit_ok hT hr3)) <| AR.keep [5, 7] rfl <| AR.op (r := u64 (s_0 &&& ~~~r3)) rfl (aop_andNot (a := s_0) (b := r3) rfl rfl rfl) <| AR.op rfl (aop_move (.inr rfl) rfl) <| AR.nil <| hK2 _ (AWP.weak (Weak.kt [4] rfl) ?_)
 refine awp_ret ?_
 obtain rfl := Option.some.inj h
 refine ⟨.inr rfl, u64 (s_0 &&& ~~~r3), rfl, ?_⟩
 exact Weak.e ⟨.k, trivial⟩
theorem bits_Without_ok {W0 : World} (hT : Tab W0) {s_0 : BitVec 64} {i_1 : Int} {r : (BitVec 64)} (h : G.bits_Without s_0 i_1 = some r) : Fun1 Tryd.prog W0 67 [u64 s_0, i64 i_1] (u64 r) := Fun1.two (bits_Without_ok0 hT h) (by simp)

end Wk
