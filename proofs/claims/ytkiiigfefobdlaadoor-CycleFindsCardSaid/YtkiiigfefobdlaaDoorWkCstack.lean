/- That the functions of a package do what their plain functions say. -/
import Derived.Test.YtkiiigfefobdlaaDoorSh
import Derived.Test.YtkiiigfefobdlaaDoorWkCFacts
open Go Go.Av Go.Proofs
set_option linter.unusedVariables false
set_option maxHeartbeats 8000000
set_option maxRecDepth 20000
namespace Wk
theorem stack_New_scc_place_ok {W0 : World} (hT : Tab W0) {most_0 : Int} {r : Unit} (h : G.stack_New_scc_place most_0 = some r) : Fun3 Tryd.prog (.pinned W0 0) 45 [i64 most_0] .empty (.ref 0 0 0) ⟨1, [(0, (2, [.agg [i64 most_0, nilS]]))], []⟩ := by
 refine fun3_of_awp rfl Tryd.func45 rfl (by kernel_rfl) Tryd.ntmps45 (by simp) ?_
 unfold G.stack_New_scc_place at h
 show AWP _ _ _ _ ⟨[(0, i64 most_0)], .empty⟩ _
 refine awp_seqK fun K1 hK1 => awp_reg rfl <| AR.op rfl (aop_move (.inr rfl) rfl) <| AR.nil <| hK1 _ (AWP.weak (Weak.kt [0] rfl) ?_)
 refine awp_seqK fun K2 hK2 => awp_reg rfl <| AR.op rfl (aop_move (.inl rfl) rfl) <| AR.op (r := .agg [i64 most_0, nilS]) rfl (aop_build rfl bd85 rfl rfl rfl) <| AR.op (r := .ref 0 0 0) rfl (aop_box 2 [.agg [i64 most_0, nilS]] rfl rfl rfl (.inl ⟨rfl, rfl⟩)) <| AR.keep [5] rfl <| AR.op rfl (aop_move (.inr rfl) rfl) <| AR.nil ?_
 refine hK2 _ (AWP.weak (Weak.kt [2] rfl) ?_)
 refine awp_ret ?_
 obtain rfl := Option.some.inj h
 refine ⟨.inr rfl, .ref 0 0 0, rfl, ?_⟩
 exact Weak.re [(0, 0)] [] rfl rfl rfl (.cons rfl rfl (.one (.sm) rfl) dt trivial) ⟨⟨_, rfl, .ref rfl⟩, trivial⟩


theorem stack_New_int_ok {W0 : World} (hT : Tab W0) {most_0 : Int} {r : Unit} (h : G.stack_New_int most_0 = some r) : Fun3 Tryd.prog (.pinned W0 0) 62 [i64 most_0] .empty (.ref 0 0 0) ⟨1, [(0, (2, [.agg [i64 most_0, nilS]]))], []⟩ := by
 refine fun3_of_awp rfl Tryd.func62 rfl (by kernel_rfl) Tryd.ntmps62 (by simp) ?_
 unfold G.stack_New_int at h
 show AWP _ _ _ _ ⟨[(0, i64 most_0)], .empty⟩ _
 refine awp_seqK fun K1 hK1 => awp_reg rfl <| AR.op rfl (aop_move (.inr rfl) rfl) <| AR.nil <| hK1 _ (AWP.weak (Weak.kt [0] rfl) ?_)
 refine awp_seqK fun K2 hK2 => awp_reg rfl <| AR.op rfl (aop_move (.inl rfl) rfl) <| AR.op (r := .agg [i64 most_0, nilS]) rfl (aop_build rfl bd97 rfl rfl rfl) <| AR.op (r := .ref 0 0 0) rfl (aop_box 2 [.agg [i64 most_0, nilS]] rfl rfl rfl (.inl ⟨rfl, rfl⟩)) <| AR.keep [5] rfl <| AR.op rfl (aop_move (.inr rfl) rfl) <| AR.nil ?_
 refine hK2 _ (AWP.weak (Weak.kt [2] rfl) ?_)
 refine awp_ret ?_
 obtain rfl := Option.some.inj h
 refine ⟨.inr rfl, .ref 0 0 0, rfl, ?_⟩
 exact Weak.re [(0, 0)] [] rfl rfl rfl (.cons rfl rfl (.one (.sm) rfl) dt trivial) ⟨⟨_, rfl, .ref rfl⟩, trivial⟩


theorem stack_Ints_ok {W0 : World} (hT : Tab W0) {most_0 : Int} {r : Unit} (h : G.stack_Ints most_0 = some r) : Fun3 Tryd.prog (.pinned W0 0) 46 [i64 most_0] .empty (.ref 0 0 0) ⟨1, [(0, (2, [.agg [i64 most_0, nilS]]))], []⟩ := by
 refine fun3_of_awp rfl Tryd.func46 rfl (by kernel_rfl) Tryd.ntmps46 (by simp) ?_
 unfold G.stack_Ints at h
 show AWP _ _ _ _ ⟨[(0, i64 most_0)], .empty⟩ _
 refine awp_seqK fun K1 hK1 => awp_reg rfl <| AR.op rfl (aop_move (.inr rfl) rfl) <| AR.nil <| hK1 _ (AWP.weak (Weak.kt [0] rfl) ?_)
 refine awp_seqK fun K2 hK2 => awp_reg rfl <| AR.op rfl (aop_move (.inl rfl) rfl) ?_
 obtain ⟨r3, hr3, h⟩ := Sh.bind_some' h
 refine AR.op (r := .ref 0 0 0) rfl (aop_call3E (ok := NoId) (ys := [i64 most_0]) (xs := [i64 most_0]) (r' := .ref 0 0 0) (Hs := ⟨0, [], []⟩) (H' := ⟨1, [(0, (2, [.agg [i64 most_0, nilS]]))], []⟩) (g := []) (m := [(0, 0)]) (nw := []) (p := 0) (.func rfl rfl (stack_New_int_ok hT hr3).call) (stack_New_int_ok hT hr3) { next := rfl, part := trivial, inj := rfl, lt := rfl, nwf := rfl, gin := rfl, held := trivial, seen := ⟨⟨_, rfl, .sm⟩, trivial⟩, inlps := rfl, ple := rfl, map := rfl, next' := rfl, back := .new 0 rfl rfl (.one ⟨.sm, .sm, trivial⟩) trivial, lps := .inl ⟨rfl, rfl⟩, mode := .inr ⟨fun _ h => h, rfl⟩, ren := .ref rfl } rfl) <| AR.op rfl (aop_move (.inr rfl) rfl) <| AR.nil <| hK2 _ (AWP.weak (Weak.kt [2] rfl) ?_)
 refine awp_ret ?_
 obtain rfl := Option.some.inj h
 refine ⟨.inr rfl, .ref 0 0 0, rfl, ?_⟩
 exact Weak.re [(0, 0)] [] rfl rfl rfl (.cons rfl rfl (.one (.sm) rfl) dt trivial) ⟨⟨_, rfl, .ref rfl⟩, trivial⟩

end Wk
