/- That the functions of a package do what their plain functions say. -/
import Derived.Test.YtcoegkcdabpijaaDoorSh
import Derived.Test.YtcoegkcdabpijaaDoorWkDFacts
open Go Go.Av Go.Proofs
set_option linter.unusedVariables false
set_option maxHeartbeats 8000000
set_option maxRecDepth 20000
namespace Wk
theorem inquestref18_place_ok0 {W0 : World} (hT : Tab W0) {l_0 : List Int} {n_1 : Int} {r : Int} (h : G.inquestref18_place l_0 n_1 = some r) : Fun2 Tryd.prog W0 40 [.sl (List.map i64 l_0), i64 n_1] (i64 r) .empty := by
 refine fun2_of_awp Tryd.func40 rfl (by kernel_rfl) Tryd.ntmps40 (by simp) ?_
 unfold G.inquestref18_place at h
 show AWP _ _ _ _ ⟨[(0, .sl (List.map i64 l_0)), (1, i64 n_1)], .empty⟩ _
 refine awp_seqK fun K1 hK1 => awp_reg rfl <| AR.op rfl (aop_move (.inr rfl) rfl) <| AR.nil <| hK1 _ (AWP.weak (Weak.kt [0, 1] rfl) ?_)
 refine awp_seqJ (fun (p : Unit) => (⟨[], .empty⟩ : St)) (fun (p : Unit) => G.inquestref18_place_j1 = some r) ?_ ?_
 ·rintro ⟨⟩ h
  replace h : G.inquestref18_place_j1 = some r := h
  unfold G.inquestref18_place_j1 at h
  refine awp_seqK fun K2 hK2 => awp_reg rfl <| AR.op rfl (aop_move (.inr rfl) rfl) <| AR.nil <| hK2 _ ?_
  refine awp_ret ?_
  obtain rfl := Option.some.inj h
  refine ⟨.inr rfl, i64 (-1), rfl, ?_⟩
  exact Weak.e ⟨.k, trivial⟩
 ·intro K3 hK3
  refine awp_seqK fun K4 hK4 => awp_reg rfl <| AR.op rfl (aop_move (.inr rfl) rfl) <| AR.nil <| hK4 _ ?_
  refine awp_block <| awp_iter (fun (p : Int) => G.inquestref18_place_b1 l_0 n_1 p) (fun (p : Int) => (⟨[(0, .sl (List.map i64 l_0)), (1, i64 n_1), (5, i64 p)], .empty⟩ : St)) h (Weak.kt [0, 1, 5] rfl) ?_
  ·skip
   rintro i22 o1 h hx1
   replace h : G.inquestref18_place_b1 l_0 n_1 i22 = some o1 := h
   unfold G.inquestref18_place_b1 at h
   refine awp_seqK fun K5 hK5 => awp_seqK fun K6 hK6 => awp_reg rfl <| AR.op rfl (aop_move (.inl rfl) rfl) <| AR.op rfl (aop_move (.inl rfl) rfl) <| AR.op rfl (t_len_sl i64 l_0 rfl rfl el26) <| AR.keep [0, 1, 5, 6, 8] rfl <| AR.op rfl (aop_lss rfl rfl rfl) ?_
   refine AR.nil <| hK6 _ (AWP.weak (Weak.kt [0, 1, 5, 9] rfl) ?_)
   refine awp_cond rfl (fun hb23 => ?_) (fun hb23 => ?_)
   ·replace h := Sh.if_t h hb23
    refine awp_skip <| hK5 _ (AWP.weak (Weak.kt [0, 1, 5] rfl) ?_)
    refine awp_seqK fun K7 hK7 => awp_block <| awp_seqK fun K8 hK8 => awp_reg rfl <| AR.op rfl (aop_move (.inl rfl) rfl) <| AR.op rfl (aop_move (.inl rfl) rfl) ?_
    obtain ⟨x28, hx28, h⟩ := Sh.bind_some' h
    obtain ⟨k29, hi29, hl29⟩ := Sh.idx_some hx28
    refine AR.op rfl (t_index_sl i64 l_0 hi29 hl29 rfl rfl rfl el26 rfl) <| AR.keep [0, 1, 5, 14] rfl <| AR.op (r := i64 x28) rfl (aop_load_pp rfl rfl sz3 rfl) <| AR.op rfl (aop_move (.inl rfl) rfl) <| AR.op (r := bl (decide (x28 = n_1))) rfl (aop_eql rfl rfl rfl) <| AR.nil <| hK8 _ (AWP.weak (Weak.kt [0, 1, 5, 17] rfl) ?_)
    refine awp_cond rfl (fun hb30 => ?_) (fun hb30 => ?_)
    ·replace h := Sh.if_t h hb30
     refine awp_seqK fun K9 hK9 => awp_reg rfl <| AR.op rfl (aop_move (.inl rfl) rfl) <| AR.op rfl (aop_move (.inr rfl) rfl) <| AR.nil <| hK9 _ (AWP.weak (Weak.kt [4] rfl) ?_)
     refine awp_ret ?_
     replace h := Sh.exit_eq h hx1
     obtain rfl := Option.some.inj h
     refine ⟨.inr rfl, i64 i22, rfl, ?_⟩
     exact Weak.e ⟨.k, trivial⟩
    ·replace h := Sh.if_f h hb30
     refine awp_skip <| hK7 _ (AWP.weak (Weak.kt [0, 1, 5] rfl) ?_)
     refine awp_reg rfl <| AR.op rfl (aop_move (.inl rfl) rfl) <| AR.op rfl (aop_add rfl rfl rfl rfl) <| AR.op rfl (aop_move (.inr rfl) rfl) <| AR.nil ?_
     replace h := Sh.next_eq h
     exact ⟨_, h, Weak.kt [0, 1, 5] rfl⟩
   ·replace h := Sh.if_f h hb23
    refine awp_exit ?_
    replace h := Sh.exit_eq h hx1
    exact hK3 () _ h (Weak.kt [] rfl)
theorem inquestref18_place_ok {W0 : World} (hT : Tab W0) {l_0 : List Int} {n_1 : Int} {r : Int} (h : G.inquestref18_place l_0 n_1 = some r) : Fun1 Tryd.prog W0 40 [.sl (List.map i64 l_0), i64 n_1] (i64 r) := Fun1.two (inquestref18_place_ok0 hT h) (by simp)


theorem inquestref18_Perm_ok0 {W0 : World} (hT : Tab W0) {l_0 : List Int} {n_1 : Int} {r : Bool} (h : G.inquestref18_Perm l_0 n_1 = some r) : Fun2 Tryd.prog W0 15 [.sl (List.map i64 l_0), i64 n_1] (bl r) .empty := by
 refine fun2_of_awp Tryd.func15 rfl (by kernel_rfl) Tryd.ntmps15 (by simp) ?_
 unfold G.inquestref18_Perm at h
 show AWP _ _ _ _ ⟨[(0, .sl (List.map i64 l_0)), (1, i64 n_1)], .empty⟩ _
 refine awp_seqK fun K1 hK1 => awp_reg rfl <| AR.op rfl (aop_move (.inr rfl) rfl) <| AR.nil <| hK1 _ (AWP.weak (Weak.kt [0, 1] rfl) ?_)
 refine awp_seqK fun K2 hK2 => awp_seqK fun K3 hK3 => awp_reg rfl <| AR.op rfl (aop_move (.inl rfl) rfl) <| AR.op rfl (t_len_sl i64 l_0 rfl rfl el26) <| AR.op rfl (aop_move (.inl rfl) rfl) <| AR.keep [0, 1, 8, 9] rfl <| AR.op (r := bl (decide ((Sh.len l_0) ≠ n_1))) rfl (aop_neq rfl rfl rfl) ?_
 refine AR.nil <| hK3 _ (AWP.weak (Weak.kt [0, 1, 10] rfl) ?_)
 refine awp_cond rfl (fun hb6 => ?_) (fun hb6 => ?_)
 ·replace h := Sh.if_t h hb6
  refine awp_seqK fun K4 hK4 => awp_reg rfl <| AR.op rfl (aop_move (.inr rfl) rfl) <| AR.nil <| hK4 _ (AWP.weak (Weak.kt [4] rfl) ?_)
  refine awp_ret ?_
  obtain rfl := Option.some.inj h
  refine ⟨.inr rfl, bl false, rfl, ?_⟩
  exact Weak.e ⟨.k, trivial⟩
 ·replace h := Sh.if_f h hb6
  refine awp_skip <| hK2 _ (AWP.weak (Weak.kt [0, 1] rfl) ?_)
  refine awp_seqJ (fun (p : Unit) => (⟨[], .empty⟩ : St)) (fun (p : Unit) => G.inquestref18_Perm_j1 = some r) ?_ ?_
  ·rintro ⟨⟩ h
   replace h : G.inquestref18_Perm_j1 = some r := h
   unfold G.inquestref18_Perm_j1 at h
   refine awp_seqK fun K5 hK5 => awp_reg rfl <| AR.op rfl (aop_move (.inr rfl) rfl) <| AR.nil <| hK5 _ ?_
   refine awp_ret ?_
   obtain rfl := Option.some.inj h
   refine ⟨.inr rfl, bl true, rfl, ?_⟩
   exact Weak.e ⟨.k, trivial⟩
  ·intro K6 hK6
   refine awp_seqK fun K7 hK7 => awp_reg rfl <| AR.op rfl (aop_move (.inr rfl) rfl) <| AR.nil <| hK7 _ ?_
   refine awp_block <| awp_iter (fun (p : Int) => G.inquestref18_Perm_b1 l_0 n_1 p) (fun (p : Int) => (⟨[(0, .sl (List.map i64 l_0)), (1, i64 n_1), (5, i64 p)], .empty⟩ : St)) h (Weak.kt [0, 1, 5] rfl) ?_
   ·skip
    rintro i15 o1 h hx1
    replace h : G.inquestref18_Perm_b1 l_0 n_1 i15 = some o1 := h
    unfold G.inquestref18_Perm_b1 at h
    refine awp_seqK fun K8 hK8 => awp_seqK fun K9 hK9 => awp_reg rfl <| AR.op rfl (aop_move (.inl rfl) rfl) <| AR.op rfl (aop_move (.inl rfl) rfl) <| AR.op rfl (aop_lss rfl rfl rfl) <| AR.nil <| hK9 _ (AWP.weak (Weak.kt [0, 1, 5, 13] rfl) ?_)
    refine awp_cond rfl (fun hb16 => ?_) (fun hb16 => ?_)
    ·replace h := Sh.if_t h hb16
     refine awp_skip <| hK8 _ (AWP.weak (Weak.kt [0, 1, 5] rfl) ?_)
     refine awp_seqK fun K10 hK10 => awp_block <| awp_seqK fun K11 hK11 => awp_reg rfl <| AR.op rfl (aop_move (.inl rfl) rfl) <| AR.op rfl (aop_move (.inl rfl) rfl) ?_
     obtain ⟨r19, hr19, h⟩ := Sh.bind_some' h
     refine AR.op (r := i64 r19) rfl (aop_call1 rfl rfl (by simp) (inquestref18_place_ok hT hr19)) <| AR.keep [0, 1, 5, 18] rfl <| AR.op rfl (aop_move (.inr rfl) rfl) <| AR.nil <| hK11 _ (AWP.weak (Weak.kt [0, 1, 5, 6] rfl) ?_)
     refine awp_seqK fun K12 hK12 => awp_reg rfl <| AR.op rfl (aop_move (.inl rfl) rfl) <| AR.op rfl (aop_lss rfl rfl rfl) <| AR.nil <| hK12 _ (AWP.weak (Weak.kt [0, 1, 5, 20] rfl) ?_)
     refine awp_cond rfl (fun hb20 => ?_) (fun hb20 => ?_)
     ·replace h := Sh.if_t h hb20
      refine awp_seqK fun K13 hK13 => awp_reg rfl <| AR.op rfl (aop_move (.inr rfl) rfl) <| AR.nil <| hK13 _ (AWP.weak (Weak.kt [4] rfl) ?_)
      refine awp_ret ?_
      replace h := Sh.exit_eq h hx1
      obtain rfl := Option.some.inj h
      refine ⟨.inr rfl, bl false, rfl, ?_⟩
      exact Weak.e ⟨.k, trivial⟩
     ·replace h := Sh.if_f h hb20
      refine awp_skip <| hK10 _ (AWP.weak (Weak.kt [0, 1, 5] rfl) ?_)
      refine awp_reg rfl <| AR.op rfl (aop_move (.inl rfl) rfl) <| AR.op rfl (aop_add rfl rfl rfl rfl) <| AR.op rfl (aop_move (.inr rfl) rfl) <| AR.nil ?_
      replace h := Sh.next_eq h
      exact ⟨_, h, Weak.kt [0, 1, 5] rfl⟩
    ·replace h := Sh.if_f h hb16
     refine awp_exit ?_
     replace h := Sh.exit_eq h hx1
     exact hK6 () _ h (Weak.kt [] rfl)
theorem inquestref18_Perm_ok {W0 : World} (hT : Tab W0) {l_0 : List Int} {n_1 : Int} {r : Bool} (h : G.inquestref18_Perm l_0 n_1 = some r) : Fun1 Tryd.prog W0 15 [.sl (List.map i64 l_0), i64 n_1] (bl r) := Fun1.two (inquestref18_Perm_ok0 hT h) (by simp)

end Wk
