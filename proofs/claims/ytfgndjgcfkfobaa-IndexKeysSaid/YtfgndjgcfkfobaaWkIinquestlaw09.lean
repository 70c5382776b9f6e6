/- That the functions of a package do what their plain functions say. -/
import Derived.Test.YtfgndjgcfkfobaaSh
import Derived.Test.YtfgndjgcfkfobaaWkIFacts
import Derived.Test.YtfgndjgcfkfobaaWkIhist
import Derived.Test.YtfgndjgcfkfobaaWkIindex
import Derived.Test.YtfgndjgcfkfobaaWkIinquestref07
import Derived.Test.YtfgndjgcfkfobaaWkIinquestref08
import Derived.Test.YtfgndjgcfkfobaaWkIinquestref09
open Go Go.Av Go.Proofs
set_option linter.unusedVariables false
set_option maxHeartbeats 8000000
set_option maxRecDepth 20000
namespace Wk
theorem inquestlaw09_awake_ok0 {W0 : World} (hT : Tab W0) {r : Bool} (h : G.inquestlaw09_awake = some r) : Fun2 Try.prog W0 7 [] (bl r) .empty := by
 refine fun2_of_awp Try.func7 rfl (by kernel_rfl) Try.ntmps7 (by simp) ?_
 unfold G.inquestlaw09_awake at h
 show AWP _ _ _ _ ⟨[], .empty⟩ _
 refine awp_seqK fun K1 hK1 => awp_reg rfl <| AR.op rfl (aop_move (.inr rfl) rfl) <| AR.nil <| hK1 _ (AWP.weak (Weak.kt [] rfl) ?_)
 refine awp_seqK fun K2 hK2 => awp_reg rfl <| AR.op (r := .clip (List.map i64 [4])) rfl (aop_buildSlice rfl (xo := [.const (.int .i64 4)]) rfl rfl rfl (by simp [AV.solid]) (by simp [AV.flat]) el30 ze30 (by decide)) <| AR.op (r := .agg [i64 0, .clip (List.map i64 [4]), nilS]) rfl (aop_build rfl bd44 rfl rfl rfl) <| AR.op (r := .agg [i64 4, i64 2]) rfl (aop_build rfl bd46 rfl rfl rfl) <| AR.keep [5, 6] rfl <| AR.op (r := .clip (List.map G.api_Take.av ([(G.api_Take.mk 4 2)] : List G.api_Take))) rfl (aop_buildSlice rfl (xo := [.tmp 6]) rfl rfl rfl (by simp) (by simp) el42 ze42 (by decide)) <| AR.op (r := .agg [i64 0, nilS, .clip (List.map G.api_Take.av ([(G.api_Take.mk 4 2)] : List G.api_Take))]) rfl (aop_build rfl bd44 rfl rfl rfl) ?_
 refine AR.op (r := .clip (List.map i64 [4])) rfl (aop_buildSlice rfl (xo := [.const (.int .i64 4)]) rfl rfl rfl (by simp [AV.solid]) (by simp [AV.flat]) el30 ze30 (by decide)) <| AR.keep [5, 8, 9] rfl <| AR.op (r := .agg [i64 0, .clip (List.map i64 [4]), nilS]) rfl (aop_build rfl bd44 rfl rfl rfl) <| AR.op (r := .clip (List.map i64 [4])) rfl (aop_buildSlice rfl (xo := [.const (.int .i64 4)]) rfl rfl rfl (by simp [AV.solid]) (by simp [AV.flat]) el30 ze30 (by decide)) <| AR.op (r := .agg [i64 0, .clip (List.map i64 [4]), nilS]) rfl (aop_build rfl bd44 rfl rfl rfl) <| AR.keep [5, 8, 10, 12] rfl <| AR.op (r := .clip (List.map G.api_Txn.av ([(G.api_Txn.mk 0 [4] []), (G.api_Txn.mk 0 [] ([(G.api_Take.mk 4 2)] : List G.api_Take)), (G.api_Txn.mk 0 [4] []), (G.api_Txn.mk 0 [4] [])] : List G.api_Txn))) rfl ((aop_buildSlice (xs := [.agg [i64 0, .clip (List.map i64 [4]), nilS], .agg [i64 0, nilS, .clip (List.map G.api_Take.av ([(G.api_Take.mk 4 2)] : List G.api_Take))], .agg [i64 0, .clip (List.map i64 [4]), nilS], .agg [i64 0, .clip (List.map i64 [4]), nilS]]) rfl (xo := [.tmp 5, .tmp 8, .tmp 10, .tmp 12]) rfl rfl rfl (by simp [AV.solid]) (by simp [AV.flat]) el22 ze22 (by decide)).clipw ⟨⟨.same _, .clip _, .nil, trivial⟩, ⟨.same _, .nil, .clip _, trivial⟩, ⟨.same _, .clip _, .nil, trivial⟩, ⟨.same _, .clip _, .nil, trivial⟩, trivial⟩) <| AR.op (r := .agg [.clip (List.map G.api_Txn.av ([(G.api_Txn.mk 0 [4] []), (G.api_Txn.mk 0 [] ([(G.api_Take.mk 4 2)] : List G.api_Take)), (G.api_Txn.mk 0 [4] []), (G.api_Txn.mk 0 [4] [])] : List G.api_Txn))]) rfl (aop_build rfl bd24 rfl rfl rfl) ?_
 refine AR.op (r := .ref 0 0 0) rfl (aop_alloc 1 [.agg [nilS]] rfl zr24 (by kernel_rfl) (.inl ⟨rfl, rfl⟩)) <| AR.keep [14, 1] rfl <| AR.op rfl (aop_store (e' := .agg [.clip (List.map G.api_Txn.av ([(G.api_Txn.mk 0 [4] []), (G.api_Txn.mk 0 [] ([(G.api_Take.mk 4 2)] : List G.api_Take)), (G.api_Txn.mk 0 [4] []), (G.api_Txn.mk 0 [4] [])] : List G.api_Txn))]) rfl rfl rfl rfl rfl rfl sz24 rfl dt rfl) <| AR.nil <| hK2 _ (AWP.weak (Weak.e (fr' := [(1, .pp [.clip (List.map G.api_Txn.av ([(G.api_Txn.mk 0 [4] []), (G.api_Txn.mk 0 [] ([(G.api_Take.mk 4 2)] : List G.api_Take)), (G.api_Txn.mk 0 [4] []), (G.api_Txn.mk 0 [4] [])] : List G.api_Txn))] 0)]) (H' := .empty) ⟨⟨_, rfl, .frzA rfl rfl rfl rfl (by simp)⟩, trivial⟩) ?_)
 refine awp_seqK fun K3 hK3 => awp_reg rfl <| AR.op (r := .agg [.clip (List.map G.api_Txn.av ([(G.api_Txn.mk 0 [4] []), (G.api_Txn.mk 0 [] ([(G.api_Take.mk 4 2)] : List G.api_Take)), (G.api_Txn.mk 0 [4] []), (G.api_Txn.mk 0 [4] [])] : List G.api_Txn))]) rfl (aop_load_pp rfl rfl sz24 rfl) ?_
 obtain ⟨r17, hr17, h⟩ := Sh.bind_some' h
 refine AR.op (r := .tuple [i64 r17.1, bl r17.2]) rfl (aop_callN rfl (ys := [.agg [.clip (List.map G.api_Txn.av ([(G.api_Txn.mk 0 [4] []), (G.api_Txn.mk 0 [] ([(G.api_Take.mk 4 2)] : List G.api_Take)), (G.api_Txn.mk 0 [4] []), (G.api_Txn.mk 0 [4] [])] : List G.api_Txn))], i64 1, i64 4]) (xs := [G.api_Hist.av (G.api_Hist.mk ([(G.api_Txn.mk 0 [4] []), (G.api_Txn.mk 0 [] ([(G.api_Take.mk 4 2)] : List G.api_Take)), (G.api_Txn.mk 0 [4] []), (G.api_Txn.mk 0 [4] [])] : List G.api_Txn)), i64 1, i64 4]) rfl (Weak.e (fr' := argsFr 0 [G.api_Hist.av (G.api_Hist.mk ([(G.api_Txn.mk 0 [4] []), (G.api_Txn.mk 0 [] ([(G.api_Take.mk 4 2)] : List G.api_Take)), (G.api_Txn.mk 0 [4] []), (G.api_Txn.mk 0 [4] [])] : List G.api_Txn)), i64 1, i64 4]) (H' := .empty) ⟨⟨.agg [.clip (List.map G.api_Txn.av ([(G.api_Txn.mk 0 [4] []), (G.api_Txn.mk 0 [] ([(G.api_Take.mk 4 2)] : List G.api_Take)), (G.api_Txn.mk 0 [4] []), (G.api_Txn.mk 0 [4] [])] : List G.api_Txn))], rfl, .ag ⟨.wide _ (by simp), trivial⟩⟩, .k, .k, trivial⟩) rfl (by simp) (index_From_ok hT hr17)) <| AR.op rfl (aop_move (.inl rfl) rfl) <| AR.keep [1, 15] rfl <| AR.op (r := i64 r17.1) rfl (aop_extract rfl rfl rfl) <| AR.op (r := bl r17.2) rfl (aop_extract rfl rfl rfl) <| AR.op rfl (aop_move (.inr rfl) rfl) <| AR.keep [1, 19, 2] rfl <| AR.op rfl (aop_move (.inr rfl) rfl) ?_
 refine AR.nil <| hK3 _ (AWP.weak (Weak.kt [1, 2, 3] rfl) ?_)
 refine awp_seqK fun K4 hK4 => awp_reg rfl <| AR.op (r := .agg [.clip (List.map G.api_Txn.av ([(G.api_Txn.mk 0 [4] []), (G.api_Txn.mk 0 [] ([(G.api_Take.mk 4 2)] : List G.api_Take)), (G.api_Txn.mk 0 [4] []), (G.api_Txn.mk 0 [4] [])] : List G.api_Txn))]) rfl (aop_load_pp rfl rfl sz24 rfl) ?_
 obtain ⟨r31, hr31, h⟩ := Sh.bind_some' h
 refine AR.op (r := .sl (List.map i64 r31)) rfl (aop_callN rfl (ys := [.agg [.clip (List.map G.api_Txn.av ([(G.api_Txn.mk 0 [4] []), (G.api_Txn.mk 0 [] ([(G.api_Take.mk 4 2)] : List G.api_Take)), (G.api_Txn.mk 0 [4] []), (G.api_Txn.mk 0 [4] [])] : List G.api_Txn))], i64 4]) (xs := [G.api_Hist.av (G.api_Hist.mk ([(G.api_Txn.mk 0 [4] []), (G.api_Txn.mk 0 [] ([(G.api_Take.mk 4 2)] : List G.api_Take)), (G.api_Txn.mk 0 [4] []), (G.api_Txn.mk 0 [4] [])] : List G.api_Txn)), i64 4]) rfl (Weak.e (fr' := argsFr 0 [G.api_Hist.av (G.api_Hist.mk ([(G.api_Txn.mk 0 [4] []), (G.api_Txn.mk 0 [] ([(G.api_Take.mk 4 2)] : List G.api_Take)), (G.api_Txn.mk 0 [4] []), (G.api_Txn.mk 0 [4] [])] : List G.api_Txn)), i64 4]) (H' := .empty) ⟨⟨.agg [.clip (List.map G.api_Txn.av ([(G.api_Txn.mk 0 [4] []), (G.api_Txn.mk 0 [] ([(G.api_Take.mk 4 2)] : List G.api_Take)), (G.api_Txn.mk 0 [4] []), (G.api_Txn.mk 0 [4] [])] : List G.api_Txn))], rfl, .ag ⟨.wide _ (by simp), trivial⟩⟩, .k, trivial⟩) rfl (by simp) (index_Writers_ok hT hr31)) <| AR.op (r := .clip (List.map i64 [0, 2, 3])) rfl (aop_buildSlice rfl (xo := [.const (.int .i64 0), .const (.int .i64 2), .const (.int .i64 3)]) rfl rfl rfl (by simp [AV.solid]) (by simp [AV.flat]) el30 ze30 (by decide)) <| AR.keep [1, 2, 3, 21, 22] rfl ?_
 obtain ⟨r32, hr32, h⟩ := Sh.bind_some' h
 refine AR.op (r := bl r32) rfl (aop_callN rfl (ys := [.sl (List.map i64 r31), .clip (List.map i64 [0, 2, 3])]) (xs := [.sl (List.map i64 r31), .sl (List.map i64 [0, 2, 3])]) rfl (Weak.e (fr' := argsFr 0 [.sl (List.map i64 r31), .sl (List.map i64 [0, 2, 3])]) (H' := .empty) ⟨⟨.sl (List.map i64 r31), rfl, .sm⟩, ⟨.clip (List.map i64 [0, 2, 3]), rfl, .wide _ (by simp)⟩, trivial⟩) rfl (by simp) (inquestref07_Ints_ok hT hr32)) <| AR.op rfl (aop_move (.inl rfl) rfl) ?_
 rcases Bool.eq_false_or_eq_true (r32) with hb33 | hb33
 ·rw [hb33]
  replace h := Sh.if_t h hb33
  refine AR.op (r := .agg [.clip (List.map G.api_Txn.av ([(G.api_Txn.mk 0 [4] []), (G.api_Txn.mk 0 [] ([(G.api_Take.mk 4 2)] : List G.api_Take)), (G.api_Txn.mk 0 [4] []), (G.api_Txn.mk 0 [4] [])] : List G.api_Txn))]) rfl (aop_load_pp rfl rfl sz24 rfl) <| AR.keep [1, 2, 3, 24, 25] rfl ?_
  obtain ⟨r34, hr34, h⟩ := Sh.bind_some' h
  refine AR.op (r := .sl (List.map i64 r34)) rfl (aop_callN rfl (ys := [.agg [.clip (List.map G.api_Txn.av ([(G.api_Txn.mk 0 [4] []), (G.api_Txn.mk 0 [] ([(G.api_Take.mk 4 2)] : List G.api_Take)), (G.api_Txn.mk 0 [4] []), (G.api_Txn.mk 0 [4] [])] : List G.api_Txn))], i64 4, i64 2]) (xs := [G.api_Hist.av (G.api_Hist.mk ([(G.api_Txn.mk 0 [4] []), (G.api_Txn.mk 0 [] ([(G.api_Take.mk 4 2)] : List G.api_Take)), (G.api_Txn.mk 0 [4] []), (G.api_Txn.mk 0 [4] [])] : List G.api_Txn)), i64 4, i64 2]) rfl (Weak.e (fr' := argsFr 0 [G.api_Hist.av (G.api_Hist.mk ([(G.api_Txn.mk 0 [4] []), (G.api_Txn.mk 0 [] ([(G.api_Take.mk 4 2)] : List G.api_Take)), (G.api_Txn.mk 0 [4] []), (G.api_Txn.mk 0 [4] [])] : List G.api_Txn)), i64 4, i64 2]) (H' := .empty) ⟨⟨.agg [.clip (List.map G.api_Txn.av ([(G.api_Txn.mk 0 [4] []), (G.api_Txn.mk 0 [] ([(G.api_Take.mk 4 2)] : List G.api_Take)), (G.api_Txn.mk 0 [4] []), (G.api_Txn.mk 0 [4] [])] : List G.api_Txn))], rfl, .ag ⟨.wide _ (by simp), trivial⟩⟩, .k, .k, trivial⟩) rfl (by simp) (index_Readers_ok hT hr34)) <| AR.op (r := .clip (List.map i64 [1])) rfl (aop_buildSlice rfl (xo := [.const (.int .i64 1)]) rfl rfl rfl (by simp [AV.solid]) (by simp [AV.flat]) el30 ze30 (by decide)) ?_
  obtain ⟨r35, hr35, h⟩ := Sh.bind_some' h
  refine AR.op (r := bl r35) rfl (aop_callN rfl (ys := [.sl (List.map i64 r34), .clip (List.map i64 [1])]) (xs := [.sl (List.map i64 r34), .sl (List.map i64 [1])]) rfl (Weak.e (fr' := argsFr 0 [.sl (List.map i64 r34), .sl (List.map i64 [1])]) (H' := .empty) ⟨⟨.sl (List.map i64 r34), rfl, .sm⟩, ⟨.clip (List.map i64 [1]), rfl, .wide _ (by simp)⟩, trivial⟩) rfl (by simp) (inquestref07_Ints_ok hT hr35)) <| AR.keep [1, 2, 3, 24, 28] rfl <| AR.op rfl (aop_pick rfl rfl rfl) <| AR.op rfl (aop_move (.inl rfl) rfl) ?_
  rcases Bool.eq_false_or_eq_true (r35) with hb36 | hb36
  ·rw [hb36]
   replace h := Sh.if_t h hb36
   refine AR.op (r := .agg [.clip (List.map G.api_Txn.av ([(G.api_Txn.mk 0 [4] []), (G.api_Txn.mk 0 [] ([(G.api_Take.mk 4 2)] : List G.api_Take)), (G.api_Txn.mk 0 [4] []), (G.api_Txn.mk 0 [4] [])] : List G.api_Txn))]) rfl (aop_load_pp rfl rfl sz24 rfl) <| AR.keep [1, 2, 3, 30, 31] rfl ?_
   obtain ⟨r37, hr37, h⟩ := Sh.bind_some' h
   refine AR.op (r := .sl (List.map i64 r37)) rfl (aop_callN rfl (ys := [.agg [.clip (List.map G.api_Txn.av ([(G.api_Txn.mk 0 [4] []), (G.api_Txn.mk 0 [] ([(G.api_Take.mk 4 2)] : List G.api_Take)), (G.api_Txn.mk 0 [4] []), (G.api_Txn.mk 0 [4] [])] : List G.api_Txn))]]) (xs := [G.api_Hist.av (G.api_Hist.mk ([(G.api_Txn.mk 0 [4] []), (G.api_Txn.mk 0 [] ([(G.api_Take.mk 4 2)] : List G.api_Take)), (G.api_Txn.mk 0 [4] []), (G.api_Txn.mk 0 [4] [])] : List G.api_Txn))]) rfl (Weak.e (fr' := argsFr 0 [G.api_Hist.av (G.api_Hist.mk ([(G.api_Txn.mk 0 [4] []), (G.api_Txn.mk 0 [] ([(G.api_Take.mk 4 2)] : List G.api_Take)), (G.api_Txn.mk 0 [4] []), (G.api_Txn.mk 0 [4] [])] : List G.api_Txn))]) (H' := .empty) ⟨⟨.agg [.clip (List.map G.api_Txn.av ([(G.api_Txn.mk 0 [4] []), (G.api_Txn.mk 0 [] ([(G.api_Take.mk 4 2)] : List G.api_Take)), (G.api_Txn.mk 0 [4] []), (G.api_Txn.mk 0 [4] [])] : List G.api_Txn))], rfl, .ag ⟨.wide _ (by simp), trivial⟩⟩, trivial⟩) rfl (by simp) (index_Keys_ok hT hr37)) <| AR.op (r := .clip (List.map i64 [4])) rfl (aop_buildSlice rfl (xo := [.const (.int .i64 4)]) rfl rfl rfl (by simp [AV.solid]) (by simp [AV.flat]) el30 ze30 (by decide)) ?_
   obtain ⟨r38, hr38, h⟩ := Sh.bind_some' h
   refine AR.op (r := bl r38) rfl (aop_callN rfl (ys := [.sl (List.map i64 r37), .clip (List.map i64 [4])]) (xs := [.sl (List.map i64 r37), .sl (List.map i64 [4])]) rfl (Weak.e (fr' := argsFr 0 [.sl (List.map i64 r37), .sl (List.map i64 [4])]) (H' := .empty) ⟨⟨.sl (List.map i64 r37), rfl, .sm⟩, ⟨.clip (List.map i64 [4]), rfl, .wide _ (by simp)⟩, trivial⟩) rfl (by simp) (inquestref07_Ints_ok hT hr38)) <| AR.keep [1, 2, 3, 30, 34] rfl <| AR.op rfl (aop_pick rfl rfl rfl) <| AR.op rfl (aop_move (.inl rfl) rfl) ?_
   rcases Bool.eq_false_or_eq_true (r38) with hb39 | hb39
   ·rw [hb39]
    replace h := Sh.if_t h hb39
    refine AR.op rfl (aop_move (.inl rfl) rfl) <| AR.keep [1, 2, 36, 37] rfl <| AR.op rfl (aop_pick rfl rfl rfl) <| AR.op rfl (aop_move (.inl rfl) rfl) ?_
    rcases Bool.eq_false_or_eq_true (r17.2) with hb40 | hb40
    ·rw [hb40]
     replace h := Sh.if_t h hb40
     refine AR.op rfl (aop_move (.inl rfl) rfl) <| AR.keep [1, 39, 40] rfl <| AR.op (r := bl (decide (r17.1 = 2))) rfl (aop_eql rfl rfl rfl) <| AR.op rfl (aop_pick rfl rfl rfl) <| AR.op rfl (aop_move (.inl rfl) rfl) <| AR.keep [1, 43] rfl ?_
     rcases Bool.eq_false_or_eq_true (decide (r17.1 = 2)) with hb41 | hb41
     ·rw [hb41]
      replace h := Sh.if_t h hb41
      refine AR.op (r := .agg [.clip (List.map G.api_Txn.av ([(G.api_Txn.mk 0 [4] []), (G.api_Txn.mk 0 [] ([(G.api_Take.mk 4 2)] : List G.api_Take)), (G.api_Txn.mk 0 [4] []), (G.api_Txn.mk 0 [4] [])] : List G.api_Txn))]) rfl (aop_load_pp rfl rfl sz24 rfl) ?_
      obtain ⟨r42, hr42, h⟩ := Sh.bind_some' h
      refine AR.op (r := .sl (List.map G.api_Choice.av r42)) rfl (aop_callN rfl (ys := [.agg [.clip (List.map G.api_Txn.av ([(G.api_Txn.mk 0 [4] []), (G.api_Txn.mk 0 [] ([(G.api_Take.mk 4 2)] : List G.api_Take)), (G.api_Txn.mk 0 [4] []), (G.api_Txn.mk 0 [4] [])] : List G.api_Txn))]]) (xs := [G.api_Hist.av (G.api_Hist.mk ([(G.api_Txn.mk 0 [4] []), (G.api_Txn.mk 0 [] ([(G.api_Take.mk 4 2)] : List G.api_Take)), (G.api_Txn.mk 0 [4] []), (G.api_Txn.mk 0 [4] [])] : List G.api_Txn))]) rfl (Weak.e (fr' := argsFr 0 [G.api_Hist.av (G.api_Hist.mk ([(G.api_Txn.mk 0 [4] []), (G.api_Txn.mk 0 [] ([(G.api_Take.mk 4 2)] : List G.api_Take)), (G.api_Txn.mk 0 [4] []), (G.api_Txn.mk 0 [4] [])] : List G.api_Txn))]) (H' := .empty) ⟨⟨.agg [.clip (List.map G.api_Txn.av ([(G.api_Txn.mk 0 [4] []), (G.api_Txn.mk 0 [] ([(G.api_Take.mk 4 2)] : List G.api_Take)), (G.api_Txn.mk 0 [4] []), (G.api_Txn.mk 0 [4] [])] : List G.api_Txn))], rfl, .ag ⟨.wide _ (by simp), trivial⟩⟩, trivial⟩) rfl (by simp) (index_Pairs_ok hT hr42)) <| AR.op (r := .agg [i64 4, i64 0, i64 2]) rfl (aop_build rfl bd40 rfl rfl rfl) <| AR.keep [43, 45, 46] rfl <| AR.op (r := .agg [i64 4, i64 0, i64 3]) rfl (aop_build rfl bd40 rfl rfl rfl) <| AR.op (r := .agg [i64 4, i64 2, i64 3]) rfl (aop_build rfl bd40 rfl rfl rfl) <| AR.op (r := .clip (List.map G.api_Choice.av ([(G.api_Choice.mk 4 0 2), (G.api_Choice.mk 4 0 3), (G.api_Choice.mk 4 2 3)] : List G.api_Choice))) rfl (aop_buildSlice rfl (xo := [.tmp 46, .tmp 47, .tmp 48]) rfl rfl rfl (by simp) (by simp) el35 ze35 (by decide)) <| AR.keep [43, 45, 49] rfl ?_
      obtain ⟨r43, hr43, h⟩ := Sh.bind_some' h
      refine AR.op (r := bl r43) rfl (aop_callN rfl (ys := [.sl (List.map G.api_Choice.av r42), .clip (List.map G.api_Choice.av ([(G.api_Choice.mk 4 0 2), (G.api_Choice.mk 4 0 3), (G.api_Choice.mk 4 2 3)] : List G.api_Choice))]) (xs := [.sl (List.map G.api_Choice.av r42), .sl (List.map G.api_Choice.av ([(G.api_Choice.mk 4 0 2), (G.api_Choice.mk 4 0 3), (G.api_Choice.mk 4 2 3)] : List G.api_Choice))]) rfl (Weak.e (fr' := argsFr 0 [.sl (List.map G.api_Choice.av r42), .sl (List.map G.api_Choice.av ([(G.api_Choice.mk 4 0 2), (G.api_Choice.mk 4 0 3), (G.api_Choice.mk 4 2 3)] : List G.api_Choice))]) (H' := .empty) ⟨⟨.sl (List.map G.api_Choice.av r42), rfl, .sm⟩, ⟨.clip (List.map G.api_Choice.av ([(G.api_Choice.mk 4 0 2), (G.api_Choice.mk 4 0 3), (G.api_Choice.mk 4 2 3)] : List G.api_Choice)), rfl, .wide _ (by simp)⟩, trivial⟩) rfl (by simp) (inquestref09_Choices_ok hT hr43)) <| AR.op rfl (aop_pick rfl rfl rfl) <| AR.op rfl (aop_move (.inr rfl) rfl) <| AR.nil <| hK4 _ (AWP.weak (Weak.kt [0] rfl) ?_)
      refine awp_ret ?_
      obtain rfl := Option.some.inj h
      refine ⟨.inr rfl, bl r43, rfl, ?_⟩
      exact Weak.e ⟨.k, trivial⟩
     ·rw [hb41]
      replace h := Sh.if_f h hb41
      refine AR.skip rfl <| AR.skip rfl <| AR.skip rfl <| AR.keep [43, 45, 46] rfl <| AR.skip rfl <| AR.skip rfl <| AR.skip rfl <| AR.keep [43, 45, 49] rfl ?_
      refine AR.skip rfl <| AR.op rfl (aop_pick rfl rfl rfl) <| AR.op rfl (aop_move (.inr rfl) rfl) <| AR.nil <| hK4 _ (AWP.weak (Weak.kt [0] rfl) ?_)
      refine awp_ret ?_
      obtain rfl := Option.some.inj h
      refine ⟨.inr rfl, bl false, rfl, ?_⟩
      exact Weak.e ⟨.k, trivial⟩
    ·rw [hb40]
     replace h := Sh.if_f h hb40
     refine AR.skip rfl <| AR.keep [1, 39, 40] rfl <| AR.skip rfl <| AR.op rfl (aop_pick rfl rfl rfl) <| AR.op rfl (aop_move (.inl rfl) rfl) <| AR.keep [1, 43] rfl <| AR.skip rfl <| AR.skip rfl ?_
     refine AR.skip rfl <| AR.keep [43, 45, 46] rfl <| AR.skip rfl <| AR.skip rfl <| AR.skip rfl <| AR.keep [43, 45, 49] rfl <| AR.skip rfl <| AR.op rfl (aop_pick rfl rfl rfl) ?_
     refine AR.op rfl (aop_move (.inr rfl) rfl) <| AR.nil <| hK4 _ (AWP.weak (Weak.kt [0] rfl) ?_)
     refine awp_ret ?_
     obtain rfl := Option.some.inj h
     refine ⟨.inr rfl, bl false, rfl, ?_⟩
     exact Weak.e ⟨.k, trivial⟩
   ·rw [hb39]
    replace h := Sh.if_f h hb39
    refine AR.skip rfl <| AR.keep [1, 2, 36, 37] rfl <| AR.op rfl (aop_pick rfl rfl rfl) <| AR.op rfl (aop_move (.inl rfl) rfl) <| AR.skip rfl <| AR.keep [1, 39, 40] rfl <| AR.skip rfl <| AR.op rfl (aop_pick rfl rfl rfl) ?_
    refine AR.op rfl (aop_move (.inl rfl) rfl) <| AR.keep [1, 43] rfl <| AR.skip rfl <| AR.skip rfl <| AR.skip rfl <| AR.keep [43, 45, 46] rfl <| AR.skip rfl <| AR.skip rfl ?_
    refine AR.skip rfl <| AR.keep [43, 45, 49] rfl <| AR.skip rfl <| AR.op rfl (aop_pick rfl rfl rfl) <| AR.op rfl (aop_move (.inr rfl) rfl) <| AR.nil <| hK4 _ (AWP.weak (Weak.kt [0] rfl) ?_)
    refine awp_ret ?_
    obtain rfl := Option.some.inj h
    refine ⟨.inr rfl, bl false, rfl, ?_⟩
    exact Weak.e ⟨.k, trivial⟩
  ·rw [hb36]
   replace h := Sh.if_f h hb36
   refine AR.skip rfl <| AR.keep [1, 2, 3, 30, 31] rfl <| AR.skip rfl <| AR.skip rfl <| AR.skip rfl <| AR.keep [1, 2, 3, 30, 34] rfl <| AR.op rfl (aop_pick rfl rfl rfl) <| AR.op rfl (aop_move (.inl rfl) rfl) ?_
   refine AR.skip rfl <| AR.keep [1, 2, 36, 37] rfl <| AR.op rfl (aop_pick rfl rfl rfl) <| AR.op rfl (aop_move (.inl rfl) rfl) <| AR.skip rfl <| AR.keep [1, 39, 40] rfl <| AR.skip rfl <| AR.op rfl (aop_pick rfl rfl rfl) ?_
   refine AR.op rfl (aop_move (.inl rfl) rfl) <| AR.keep [1, 43] rfl <| AR.skip rfl <| AR.skip rfl <| AR.skip rfl <| AR.keep [43, 45, 46] rfl <| AR.skip rfl <| AR.skip rfl ?_
   refine AR.skip rfl <| AR.keep [43, 45, 49] rfl <| AR.skip rfl <| AR.op rfl (aop_pick rfl rfl rfl) <| AR.op rfl (aop_move (.inr rfl) rfl) <| AR.nil <| hK4 _ (AWP.weak (Weak.kt [0] rfl) ?_)
   refine awp_ret ?_
   obtain rfl := Option.some.inj h
   refine ⟨.inr rfl, bl false, rfl, ?_⟩
   exact Weak.e ⟨.k, trivial⟩
 ·rw [hb33]
  replace h := Sh.if_f h hb33
  refine AR.skip rfl <| AR.keep [1, 2, 3, 24, 25] rfl <| AR.skip rfl <| AR.skip rfl <| AR.skip rfl <| AR.keep [1, 2, 3, 24, 28] rfl <| AR.op rfl (aop_pick rfl rfl rfl) <| AR.op rfl (aop_move (.inl rfl) rfl) ?_
  refine AR.skip rfl <| AR.keep [1, 2, 3, 30, 31] rfl <| AR.skip rfl <| AR.skip rfl <| AR.skip rfl <| AR.keep [1, 2, 3, 30, 34] rfl <| AR.op rfl (aop_pick rfl rfl rfl) <| AR.op rfl (aop_move (.inl rfl) rfl) ?_
  refine AR.skip rfl <| AR.keep [1, 2, 36, 37] rfl <| AR.op rfl (aop_pick rfl rfl rfl) <| AR.op rfl (aop_move (.inl rfl) rfl) <| AR.skip rfl <| AR.keep [1, 39, 40] rfl <| AR.skip rfl <| AR.op rfl (aop_pick rfl rfl rfl) ?_
  refine AR.op rfl (aop_move (.inl rfl) rfl) <| AR.keep [1, 43] rfl <| AR.skip rfl <| AR.skip rfl <| AR.skip rfl <| AR.keep [43, 45, 46] rfl <| AR.skip rfl <| AR.skip rfl ?_
  refine AR.skip rfl <| AR.keep [43, 45, 49] rfl <| AR.skip rfl <| AR.op rfl (aop_pick rfl rfl rfl) <| AR.op rfl (aop_move (.inr rfl) rfl) <| AR.nil <| hK4 _ (AWP.weak (Weak.kt [0] rfl) ?_)
  refine awp_ret ?_
  obtain rfl := Option.some.inj h
  refine ⟨.inr rfl, bl false, rfl, ?_⟩
  exact Weak.e ⟨.k, trivial⟩
theorem inquestlaw09_awake_ok {W0 : World} (hT : Tab W0) {r : Bool} (h : G.inquestlaw09_awake = some r) : Fun1 Try.prog W0 7 [] (bl r) := Fun1.two (inquestlaw09_awake_ok0 hT h) (by simp)

end Wk
