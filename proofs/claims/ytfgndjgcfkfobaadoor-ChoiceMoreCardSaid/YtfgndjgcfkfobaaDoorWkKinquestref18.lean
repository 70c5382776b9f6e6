/- That the functions of a package do what their plain functions say. -/
import Derived.Test.YtfgndjgcfkfobaaDoorSh
import Derived.Test.YtfgndjgcfkfobaaDoorWkKFacts
import Derived.Test.YtfgndjgcfkfobaaDoorWkKinquestref08
import Derived.Test.YtfgndjgcfkfobaaDoorWkKinquestref09
open Go Go.Av Go.Proofs
set_option linter.unusedVariables false
set_option maxHeartbeats 8000000
set_option maxRecDepth 20000
namespace Wk
theorem inquestref18_Back_ok0 {W0 : World} (hT : Tab W0) {c_0 : G.api_Choice} {r : G.api_Choice} (h : G.inquestref18_Back c_0 = some r) : Fun2 Tryd.prog W0 32 [G.api_Choice.av c_0] (G.api_Choice.av r) .empty := by
 refine fun2_of_awp Tryd.func32 rfl (by kernel_rfl) Tryd.ntmps32 (by simp) ?_
 unfold G.inquestref18_Back at h
 show AWP _ _ _ _ ⟨[(0, G.api_Choice.av c_0)], .empty⟩ _
 refine awp_seqK fun K1 hK1 => awp_reg rfl <| AR.op (r := .ref 0 0 0) rfl (aop_box 3 [G.api_Choice.av c_0] rfl rfl rfl (.inl ⟨rfl, rfl⟩)) <| AR.op (r := .ref 1 0 0) rfl (aop_alloc 3 [.agg [i64 0, i64 0, i64 0]] rfl zr54 (by kernel_rfl) (.inl ⟨rfl, rfl⟩)) <| AR.nil <| hK1 _ (AWP.weak (Weak.re (fr' := [(1, .pp [i64 c_0.Key, i64 c_0.A, i64 c_0.B] 0), (2, .ref 0 0 0)]) (H' := ⟨1, [(0, (3, [.agg [i64 0, i64 0, i64 0]]))], []⟩) [(0, 1)] [] rfl rfl rfl (.cons rfl rfl (.one (.sm) rfl) dt trivial) ⟨⟨_, rfl, .frzA rfl rfl rfl rfl (by simp)⟩, ⟨_, rfl, .ref rfl⟩, trivial⟩) ?_)
 refine awp_seqK fun K2 hK2 => awp_reg rfl <| AR.op rfl (aop_field_pp rfl rfl fd54_0 (by decide)) <| AR.op (r := i64 c_0.Key) rfl (aop_load_pp rfl rfl sz3 rfl) <| AR.op rfl (aop_field_pp rfl rfl fd54_2 (by decide)) <| AR.keep [1, 2, 4, 5] rfl <| AR.op (r := i64 c_0.B) rfl (aop_load_pp rfl rfl sz3 rfl) <| AR.op rfl (aop_field_pp rfl rfl fd54_1 (by decide)) ?_
 refine AR.op (r := i64 c_0.A) rfl (aop_load_pp rfl rfl sz3 rfl) <| AR.keep [2, 4, 6, 8] rfl <| AR.op (r := .agg [i64 c_0.Key, i64 c_0.B, i64 c_0.A]) rfl (aop_build rfl bd54 rfl rfl rfl) <| AR.op rfl (aop_store (e' := .agg [i64 c_0.Key, i64 c_0.B, i64 c_0.A]) rfl rfl rfl rfl rfl rfl sz54 rfl dt rfl) <| AR.nil <| hK2 _ (AWP.weak (Weak.re (fr' := [(2, .ref 0 0 0)]) (H' := ⟨1, [(0, (3, [.agg [i64 c_0.Key, i64 c_0.B, i64 c_0.A]]))], []⟩) [(0, 0)] [] rfl rfl rfl (.cons rfl rfl (.one (.sm) rfl) dt trivial) ⟨⟨_, rfl, .ref rfl⟩, trivial⟩) ?_)
 refine awp_ret ?_
 obtain rfl := Option.some.inj h
 refine ⟨.inr rfl, .agg [i64 c_0.Key, i64 c_0.B, i64 c_0.A], rfl, ?_⟩
 exact Weak.e ⟨⟨.agg [i64 c_0.Key, i64 c_0.B, i64 c_0.A], rfl, .sm⟩, trivial⟩
theorem inquestref18_Back_ok {W0 : World} (hT : Tab W0) {c_0 : G.api_Choice} {r : G.api_Choice} (h : G.inquestref18_Back c_0 = some r) : Fun1 Tryd.prog W0 32 [G.api_Choice.av c_0] (G.api_Choice.av r) := Fun1.two (inquestref18_Back_ok0 hT h) (by simp)


end Wk
