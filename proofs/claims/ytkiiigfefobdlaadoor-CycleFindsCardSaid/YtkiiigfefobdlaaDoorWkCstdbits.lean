/- That the functions of a package do what their plain functions say. -/
import Derived.Test.YtkiiigfefobdlaaDoorSh
import Derived.Test.YtkiiigfefobdlaaDoorWkCFacts
open Go Go.Av Go.Proofs
set_option linter.unusedVariables false
set_option maxHeartbeats 8000000
set_option maxRecDepth 20000
namespace Wk
theorem bits_TrailingZeros64_ok0 {W0 : World} (hT : Tab W0) {x_0 : BitVec 64} {r : Int} (h : G.bits_TrailingZeros64 x_0 = some r) : Fun2 Tryd.prog W0 61 [u64 x_0] (i64 r) .empty := by
 refine fun2_of_awp Tryd.func61 rfl (by kernel_rfl) Tryd.ntmps61 (by simp) ?_
 unfold G.bits_TrailingZeros64 at h
 show AWP _ _ _ _ ⟨[(0, u64 x_0)], .empty⟩ _
 refine awp_seqK fun K1 hK1 => awp_reg rfl <| AR.op rfl (aop_move (.inr rfl) rfl) <| AR.nil <| hK1 _ (AWP.weak (Weak.kt [0] rfl) ?_)
 refine awp_seqK fun K2 hK2 => awp_seqK fun K3 hK3 => awp_reg rfl <| AR.op rfl (aop_move (.inl rfl) rfl) <| AR.op (r := bl (decide (x_0 = 0#64))) rfl (aop_eql64 (a := x_0) (b := 0#64) rfl rfl rfl) <| AR.nil <| hK3 _ (AWP.weak (Weak.kt [0, 4] rfl) ?_)
 refine awp_cond rfl (fun hb4 => ?_) (fun hb4 => ?_)
 ·replace h := Sh.if_t h hb4
  refine awp_seqK fun K4 hK4 => awp_reg rfl <| AR.op rfl (aop_move (.inr rfl) rfl) <| AR.nil <| hK4 _ (AWP.weak (Weak.kt [2] rfl) ?_)
  refine awp_ret ?_
  obtain rfl := Option.some.inj h
  refine ⟨.inr rfl, i64 64, rfl, ?_⟩
  exact Weak.e ⟨.k, trivial⟩
 ·replace h := Sh.if_f h hb4
  refine awp_skip <| hK2 _ (AWP.weak (Weak.kt [0] rfl) ?_)
  refine awp_seqK fun K5 hK5 => awp_reg rfl <| AR.op rfl (aop_move (.inl rfl) rfl) <| AR.op rfl (aop_move (.inl rfl) rfl) <| AR.op (r := u64 (-x_0)) rfl (aop_neg64 rfl rfl) <| AR.keep [5, 7] rfl <| AR.op (r := u64 (x_0 &&& (-x_0))) rfl (aop_and (a := x_0) (b := -x_0) rfl rfl rfl) <| AR.op (r := u64 ((x_0 &&& (-x_0)) * 285870213051353865#64)) rfl (aop_mul64 (a := x_0 &&& (-x_0)) (b := 285870213051353865#64) rfl rfl rfl) ?_
  obtain ⟨s8, hs8, h⟩ := Sh.bind_some' h
  refine AR.op (r := u64 s8) rfl (t_shr hs8 rfl rfl rfl) <| AR.keep [10] rfl ?_
  obtain ⟨x9, hx9, h⟩ := Sh.bind_some' h
  obtain ⟨k10, hi10, hl10⟩ := Sh.idx_some hx9
  refine AR.op rfl (t_index_glob hi10 hl10 rfl rfl ar95 hT) <| AR.op (r := kA .u8 x9) rfl (aop_load_pp rfl rfl sz5 (tab_get hl10)) <| AR.op (r := i64 (w64 x9)) rfl (aop_conv rfl rfl Tryd.underlying5 Tryd.underlying3 rfl) <| AR.keep [13] rfl <| AR.op rfl (aop_move (.inr rfl) rfl) <| AR.nil <| hK5 _ (AWP.weak (Weak.kt [2] rfl) ?_)
  refine awp_ret ?_
  obtain rfl := Option.some.inj h
  refine ⟨.inr rfl, i64 (w64 x9), rfl, ?_⟩
  exact Weak.e ⟨.k, trivial⟩
theorem bits_TrailingZeros64_ok {W0 : World} (hT : Tab W0) {x_0 : BitVec 64} {r : Int} (h : G.bits_TrailingZeros64 x_0 = some r) : Fun1 Tryd.prog W0 61 [u64 x_0] (i64 r) := Fun1.two (bits_TrailingZeros64_ok0 hT h) (by simp)

end Wk
