/- That the functions of a package do what their plain functions say. -/
import Derived.Test.YtmnmbaehidfebaaSh
import Derived.Test.YtmnmbaehidfebaaWkFFacts
import Derived.Test.YtmnmbaehidfebaaWkFinquestref08
import Derived.Test.YtmnmbaehidfebaaWkFinquestref09
import Derived.Test.YtmnmbaehidfebaaWkFinquestref18
import Derived.Test.YtmnmbaehidfebaaWkFinquestref19
open Go Go.Av Go.Proofs
set_option linter.unusedVariables false
set_option maxHeartbeats 8000000
set_option maxRecDepth 20000
namespace Wk
theorem inquestref22_Small_ok0 {W0 : World} (hT : Tab W0) {h_0 : G.api_Hist} {txns_1 : Int} {pairs_2 : Int} {r : Bool} (h : G.inquestref22_Small h_0 txns_1 pairs_2 = some r) : Fun2 Try.prog W0 18 [G.api_Hist.av h_0, i64 txns_1, i64 pairs_2] (bl r) .empty := by
 refine fun2_of_awp Try.func18 rfl (by kernel_rfl) Try.ntmps18 (by simp) ?_
 unfold G.inquestref22_Small at h
 show AWP _ _ _ _ ⟨[(0, G.api_Hist.av h_0), (1, i64 txns_1), (2, i64 pairs_2)], .empty⟩ _
 refine awp_seqK fun K1 hK1 => awp_reg rfl <| AR.op (r := .ref 0 0 0) rfl (aop_box 1 [G.api_Hist.av h_0] rfl rfl rfl (.inl ⟨rfl, rfl⟩)) <| AR.op rfl (aop_move (.inr rfl) rfl) <| AR.nil <| hK1 _ (AWP.weak (Weak.e (fr' := [(1, i64 txns_1), (2, i64 pairs_2), (3, .pp [.sl (List.map G.api_Txn.av h_0.Txns)] 0)]) (H' := .empty) ⟨.k, .k, ⟨_, rfl, .frzA rfl rfl rfl rfl (by simp)⟩, trivial⟩) ?_)
 refine awp_seqK fun K2 hK2 => awp_reg rfl <| AR.op (r := G.api_Hist.av h_0) rfl (aop_load_pp rfl rfl sz24 rfl) <| AR.op rfl (aop_move (.inl rfl) rfl) ?_
 obtain ⟨r8, hr8, h⟩ := Sh.bind_some' h
 refine AR.op (r := bl r8) rfl (aop_call1 rfl rfl (by simp) (inquestref08_Few_ok hT hr8)) <| AR.keep [2, 3, 12] rfl <| AR.op rfl (aop_move (.inr rfl) rfl) <| AR.nil <| hK2 _ (AWP.weak (Weak.kt [2, 3, 7] rfl) ?_)
 refine awp_seqK fun K3 hK3 => awp_reg rfl <| AR.op (r := G.api_Hist.av h_0) rfl (aop_load_pp rfl rfl sz24 rfl) ?_
 obtain ⟨r10, hr10, h⟩ := Sh.bind_some' h
 refine AR.op (r := bl r10) rfl (aop_call1 rfl rfl (by simp) (inquestref08_Right_ok hT hr10)) <| AR.op rfl (aop_move (.inr rfl) rfl) <| AR.nil <| hK3 _ (AWP.weak (Weak.kt [2, 3, 7, 8] rfl) ?_)
 refine awp_seqK fun K4 hK4 => awp_reg rfl <| AR.op (r := G.api_Hist.av h_0) rfl (aop_load_pp rfl rfl sz24 rfl) ?_
 obtain ⟨r12, hr12, h⟩ := Sh.bind_some' h
 refine AR.op (r := .sl (List.map G.api_Choice.av r12)) rfl (aop_call1 rfl rfl (by simp) (inquestref09_Pairs_ok hT hr12)) <| AR.op rfl (aop_move (.inr rfl) rfl) <| AR.nil <| hK4 _ (AWP.weak (Weak.kt [2, 7, 8, 9] rfl) ?_)
 refine awp_seqK fun K5 hK5 => awp_reg rfl <| AR.op rfl (aop_move (.inl rfl) rfl) <| AR.op rfl (aop_move (.inl rfl) rfl) ?_
 rcases Bool.eq_false_or_eq_true (r8) with hb15 | hb15
 ·rw [hb15]
  replace h := Sh.if_t h hb15
  refine AR.op rfl (aop_move (.inl rfl) rfl) <| AR.keep [2, 9, 18, 19] rfl <| AR.op rfl (aop_pick rfl rfl rfl) <| AR.op rfl (aop_move (.inl rfl) rfl) ?_
  rcases Bool.eq_false_or_eq_true (r10) with hb16 | hb16
  ·rw [hb16]
   replace h := Sh.if_t h hb16
   refine AR.op rfl (aop_move (.inl rfl) rfl) <| AR.keep [2, 21, 22] rfl <| AR.op rfl (t_len_sl G.api_Choice.av r12 rfl rfl el25) <| AR.op rfl (aop_move (.inl rfl) rfl) <| AR.op rfl (aop_leq rfl rfl rfl) <| AR.keep [21, 25] rfl <| AR.op rfl (aop_pick rfl rfl rfl) <| AR.op rfl (aop_move (.inr rfl) rfl) ?_
   refine AR.nil <| hK5 _ (AWP.weak (Weak.kt [6] rfl) ?_)
   refine awp_ret ?_
   obtain rfl := Option.some.inj h
   refine ⟨.inr rfl, bl (decide ((Sh.len r12) ≤ pairs_2)), rfl, ?_⟩
   exact Weak.e ⟨.k, trivial⟩
  ·rw [hb16]
   replace h := Sh.if_f h hb16
   refine AR.skip rfl <| AR.keep [2, 21, 22] rfl <| AR.skip rfl <| AR.skip rfl <| AR.skip rfl <| AR.keep [21, 25] rfl <| AR.op rfl (aop_pick rfl rfl rfl) <| AR.op rfl (aop_move (.inr rfl) rfl) ?_
   refine AR.nil <| hK5 _ (AWP.weak (Weak.kt [6] rfl) ?_)
   refine awp_ret ?_
   obtain rfl := Option.some.inj h
   refine ⟨.inr rfl, bl false, rfl, ?_⟩
   exact Weak.e ⟨.k, trivial⟩
 ·rw [hb15]
  replace h := Sh.if_f h hb15
  refine AR.skip rfl <| AR.keep [2, 9, 18, 19] rfl <| AR.op rfl (aop_pick rfl rfl rfl) <| AR.op rfl (aop_move (.inl rfl) rfl) <| AR.skip rfl <| AR.keep [2, 21, 22] rfl <| AR.skip rfl <| AR.skip rfl ?_
  refine AR.skip rfl <| AR.keep [21, 25] rfl <| AR.op rfl (aop_pick rfl rfl rfl) <| AR.op rfl (aop_move (.inr rfl) rfl) <| AR.nil <| hK5 _ (AWP.weak (Weak.kt [6] rfl) ?_)
  refine awp_ret ?_
  obtain rfl := Option.some.inj h
  refine ⟨.inr rfl, bl false, rfl, ?_⟩
  exact Weak.e ⟨.k, trivial⟩
theorem inquestref22_Small_ok {W0 : World} (hT : Tab W0) {h_0 : G.api_Hist} {txns_1 : Int} {pairs_2 : Int} {r : Bool} (h : G.inquestref22_Small h_0 txns_1 pairs_2 = some r) : Fun1 Try.prog W0 18 [G.api_Hist.av h_0, i64 txns_1, i64 pairs_2] (bl r) := Fun1.two (inquestref22_Small_ok0 hT h) (by simp)


end Wk
